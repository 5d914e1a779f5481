/- Texts joined: Bal1, Bal2, Bal3, Bal4, Bal5, Sf1, Sf2, Sf3, Pl1, Pl2, Eng16, Pl3. The parts say what each of them proves. No condition. -/
import Derived.Test.YtdcijljfgcjelaaGreatJh3
import Derived.DeepKeys4
import Derived.Maps.Own
import Derived.Maps.OwnSet
import Derived.Maps.Range
import Derived.Carry
namespace Go.Proofs.YtdcijljfgcjelaaGreat
set_option maxRecDepth 20000
open Go.RowKit
attribute [local irreducible] Calls
def scn (v k : Nat) (l : List Nat) : Nat → Nat
 | 0 => 0
 | j + 1 => if nth l j = v - k + j then scn v k l j else j + 1
theorem scn_le (v k : Nat) (l : List Nat) : ∀ j, scn v k l j ≤ j
 | 0 => Nat.le_refl _
 | j + 1 => by
   have := scn_le v k l j
   rw [scn]; split <;> omega
def filL (l : List Nat) (j : Nat) : Nat → List Nat
 | 0 => l
 | d + 1 => (filL l j d).set (j + d) (nth (filL l j d) (j + d - 1) + 1)
theorem filL_len (l : List Nat) (j : Nat) : ∀ d, (filL l j d).length = l.length
 | 0 => rfl
 | d + 1 => by rw [filL, List.length_set, filL_len l j d]
def nxtL (k i : Nat) (l : List Nat) : List Nat := filL (l.set i (nth l i + 1)) (i + 1) (k - (i + 1))
def ends (v k : Nat) : Nat → List Nat → Bool
 | 0, l => Nat.beq (scn v k l k) 0
 | q + 1, l => match scn v k l k with
   | 0 => false
   | i + 1 => ends v k q (nxtL k i l)
theorem set_le {l : List Nat} {B j x : Nat} (h : ∀ i, nth l i ≤ B) (hx : x ≤ B) : ∀ i, nth (l.set j x) i ≤ B := fun i => by
 by_cases hj : j < l.length
 · rw [nth_set_eq hj]; split
   · exact hx
   · exact h i
 · rw [List.set_eq_of_length_le (by omega)]; exact h i
theorem filL_le {l : List Nat} {B j : Nat} (h : ∀ i, nth l i ≤ B) : ∀ d, ∀ i, nth (filL l j d) i ≤ B + d
 | 0 => h
 | d + 1 => set_le (fun i => Nat.le_succ_of_le (filL_le h d i)) (Nat.succ_le_succ (filL_le h d _))
theorem nxtL_le {l : List Nat} {B k i : Nat} (h : ∀ i, nth l i ≤ B) (hk : k ≤ 60) : ∀ q, nth (nxtL k i l) q ≤ B + 61 := fun q => by
 have := filL_le (j := i + 1) (set_le (j := i) (x := nth l i + 1) (fun q => Nat.le_succ_of_le (h q)) (Nat.succ_le_succ (h i))) (k - (i + 1)) q
 unfold nxtL
 omega
theorem nxtL_len (k i : Nat) (l : List Nat) : (nxtL k i l).length = l.length := by unfold nxtL; rw [filL_len, List.length_set]
theorem ldv_set (l : List Nat) (k x : Nat) : (ldv l).set k (iv x) = ldv (l.set k x) := by unfold ldv; rw [List.map_set]
theorem made_iv (n : Nat) : (madeCells (Value.int .i64 0).cells (n * 1)).toList = ldv (List.replicate n 0) := by
 rw [show (Value.int .i64 0).cells = #[.int .i64 0] from rfl, made_one, ldv, List.map_replicate]; rfl
def rngP (k i : Nat) : List Nat := (List.range k).map fun q => if q < i then q else 0
theorem rngP_len (k i : Nat) : (rngP k i).length = k := by simp [rngP]
theorem rngP_zero (k : Nat) : rngP k 0 = List.replicate k 0 := by
 unfold rngP
 rw [show (fun q => if q < 0 then q else 0) = fun _ => 0 from funext fun q => by simp, List.map_const', List.length_range]
theorem rngP_set {k i : Nat} (h : i < k) : (rngP k i).set i i = rngP k (i + 1) :=
 list_ext_nth (by rw [List.length_set, rngP_len, rngP_len]) fun q hq => by
   have hq3 : q < k := by rw [List.length_set, rngP_len] at hq; exact hq
   have e1 : nth (rngP k i) q = if q < i then q else 0 := nth_range _ hq3
   have e2 : nth (rngP k (i + 1)) q = if q < i + 1 then q else 0 := nth_range _ hq3
   rw [nth_set_eq (by rw [rngP_len]; exact h), e1, e2]
   by_cases e : q = i
   · subst e; rw [if_pos rfl, if_pos (by omega)]
   · rw [if_neg e]
     by_cases e3 : q < i
     · rw [if_pos e3, if_pos (by omega)]
     · rw [if_neg e3, if_neg (by omega)]
theorem rngP_all (k : Nat) : rngP k k = List.range k := by
 unfold rngP
 rw [List.map_congr_left (g := fun q => q) fun q hq => if_pos (List.mem_range.1 hq)]
 simp
theorem rng_le (k i : Nat) : nth (List.range k) i ≤ k := by
 by_cases h : i < k
 · have : nth (List.range k) i = i := by rw [nth_eq (by simpa using h)]; simp
   omega
 · unfold nth; rw [List.getD_eq_getElem?_getD, List.getElem?_eq_none (by simpa using h)]; exact Nat.zero_le _
set_option maxHeartbeats 2000000 in
theorem rcomplete_n (v k q : Nat) (w : World) (hv : v ≤ 60) (hk : 1 ≤ k) (hkv : k ≤ v) (hq : q ≤ 4096) (hE : ends v k q (List.range k) = true) :
   Calls Tryz.prog 104 #[iv v, iv k] w fun e w' => ∃ u M, e = .returned u ∧ H w M w' ∧ ∃ A c, u = .agg #[iv v, .slice A (q + 1) c] ∧ M = [] := by
 refine calls_wcG (args := [iv v, iv k]) [.cell 4 61] [] Tryz.func104 rfl Tryz.ntmps104 rfl rfl (H.refl _) ?_
 refine uS rfl fun K hK => ?_
 refine WL.want rfl (WL1.alloc rfl rfl rfl rfl (fun b4 => ?_))
 refine wN hK ?_; clear hK
 refine uS rfl fun K hK => ?_
 refine jm rfl rfl ?_
 refine wG rfl rfl (g_build (cs := [_, _]) rfl rfl rfl rfl (.cons (.mk (v := .int _ _) rfl rfl) .nil) rfl rfl rfl) ?_
 refine WL.want rfl (WL1.alloc rfl rfl rfl rfl (fun b5 => ?_))
 refine WL.want rfl (WL1.storeAll rfl rfl (.mk rfl rfl) (.mk rfl rfl) rfl (all1 rfl) (by first | rfl | (simp [Blk.len]; done)) (.head) ?_)
 refine wN hK ?_; clear hK
 refine uS rfl fun K hK => ?_
 refine jm rfl rfl ?_
 refine WL.want rfl (WL1.make elI rfl rfl (.mk rfl rfl) (.mk rfl rfl) rfl rfl (by omega) (by unfold maxLen; omega) (fun b13 => ?_))
 refine jm rfl rfl ?_
 refine wN hK ?_; clear hK
 refine WC.seq fun K hK => ?_
 refine uS rfl fun K hK => ?_
 refine jm rfl rfl ?_
 refine wN hK ?_; clear hK
 refine WC.block ?_
 rw [made_iv, ← rngP_zero]
 refine WC.loop (8372352) (fun i : Nat => [(7, iv i)]) (fun i => [vec (some ⟨b13, 0, none⟩) k k 3 1 (ldv (rngP k i)), pt b5 DT [iv v, .slice none 0 0], pt b4 DT [iv 0, .slice none 0 0]]) (fun i => i ≤ k) (fun i => k - i) 0 ⟨rfl, trivial⟩ (.refl _) (by omega) ?_
 intro i U hi
 have hrl := rngP_len k i
 have hdl := ldv_len (rngP k i)
 by_cases hlt : i < k
 · refine WC.seq fun K hK => ?_
   refine uS rfl fun K hK => ?_
   iterate 2 refine jm rfl rfl ?_
   refine jt rfl rfl (by omega) ?_
   refine wN hK ?_; clear hK
   refine uT rfl rfl ?_
   refine WC.skip ?_
   (refine hK _ _ ?_; clear hK)
   refine WC.seq fun K hK => ?_
   refine WC.block ?_
   refine WC.region rfl ?_
   iterate 3 refine jm rfl rfl ?_
   refine jx 1 rfl rfl rfl rfl rfl (by omega) rfl ?_
   refine WL.want rfl (WL1.storeV1 rfl rfl (.mk rfl rfl) (.mk (v := .int _ _) rfl rfl) rfl rfl (by first | omega | (simp; done) | (simp; omega)) (.head) ?_)
   refine wN hK ?_; clear hK
   refine WC.region rfl ?_
   refine jm rfl rfl ?_
   refine ji rfl rfl (by omega) ?_
   refine jm rfl rfl ?_
   refine WL.nil ?_
   refine ⟨i + 1, (by repeat (first | with_reducible exact .refl _ _ | refine .set rfl ?_ | refine .put rfl ?_ | refine .sets rfl ?_ | refine .hav rfl ?_ | exact .refl _ _)), ⟨rfl, trivial⟩, ?_, by omega, by omega⟩
   rw [Nat.mul_one, ldv_set, rngP_set hlt]
   exact .refl _
 obtain rfl : i = k := by omega
 rw [rngP_all]
 refine WC.seq fun K hK => ?_
 refine uS rfl fun K hK => ?_
 iterate 2 refine jm rfl rfl ?_
 refine jf rfl rfl (by omega) ?_
 refine wN hK ?_; clear hK
 refine uF rfl rfl ?_
 refine WC.exit ?_
 (clear hK; refine hK _ _ ?_; clear hK)
 refine WC.block ?_
 refine WC.nilvec 29 1 ?_
 refine WC.loopI4 (18889465931478572466944) (fun (q' : Nat) (l : List Nat) (Ac : Option Addr × Nat) (gv : List Value) => []) (fun q' l Ac gv => vec (some ⟨b13, 0, none⟩) i i 3 1 (ldv l) :: pt b5 DT [iv v, .slice Ac.1 gv.length Ac.2] :: vec Ac.1 gv.length Ac.2 29 1 gv :: pt b4 DT [iv 0, .slice none 0 0] :: []) (fun q' l _ gv => gv.length + q' = q ∧ ends v i q' l = true ∧ l.length = i ∧ (∀ p, nth l p ≤ 60 + 61 * gv.length) ∧ ∀ u ∈ gv, u.oneCell' = true) (fun q' _ _ _ => q') q (List.range i) (none, 0) [] trivial (Imp.pick (by repeat constructor) (Imp.pick (by repeat constructor) (Imp.pick (by repeat constructor) (Imp.pick (by repeat constructor) (Imp.nil _))))) ⟨by simp, hE, by simp, fun p => by have := rng_le i p; omega, by simp⟩ ?_
 clear hE hlt hi hrl hdl
 rintro q' l ⟨A, c⟩ gv U2 ⟨hgq, hE, hll, hlb, hone⟩
 have hdl := ldv_len l
 dsimp only
 have hco := fun u (hu : u ∈ ldv l) => ldv_one l u hu
 refine WC.block ?_
 refine WC.seq fun K hK => ?_
 refine WC.until [pt b5 DT [iv v, .slice A gv.length c]] [8] rfl (by kernel_rfl) ?_
 refine uG 0 rfl (by decide +kernel) (.inr (iS (by repeat constructor))) rfl (Ga 1 rfl rfl rfl) ?_
 refine uB 1 rfl (by decide +kernel) (iS (by repeat constructor)) rfl (Gl rfl rfl (rd_pt (.head _) rfl)) ?_
 refine uP 3 rfl (by decide +kernel) (.inr (iS (by repeat constructor))) rfl rfl ?_
 refine WB.one 2 (by decide +kernel) rfl rfl ?_
 refine WL1.lit (cs := []) elI rfl rfl rfl .nil rfl (by first | (simp [Value.cells]; done) | fail) rfl rfl (fun b25 => ?_)
 refine WL.nil ?_
 refine ⟨.inr (iS (by repeat constructor)), ?_⟩
 refine WB.one 4 (by decide +kernel) rfl rfl ?_
 refine WL1.append elI rfl rfl (.mk rfl rfl) (.mk rfl rfl) (.head) (fun w hw => Sl.of_vec hw (.tail _ (.head _))) (ldv_one _) (by unfold maxLen; omega) (by omega) (fun A27 c27 => ?_)
 refine WL.nil ?_
 refine ⟨.inr (iS (by repeat constructor)), ?_⟩
 refine WB.one 5 (by decide +kernel) rfl rfl ?_
 refine WL1.lit (cs := [_]) elRI rfl rfl rfl (.cons (.mk (v := .slice _ _ _) rfl rfl) .nil) rfl (by first | (simp [Value.cells]; done) | fail) rfl rfl (fun b28 => ?_)
 refine WL.nil ?_
 refine ⟨.inr (iS (by repeat constructor)), ?_⟩
 refine WB.one 6 (by decide +kernel) rfl rfl ?_
 refine WL1.append elRI rfl rfl (.mk rfl rfl) (.mk rfl rfl) (.tail (.tail (.tail (.tail (.head))))) (fun w hw => Sl.of_vec hw (.head _)) (all1 rfl) (by unfold maxLen; omega) (by omega) (fun A29 c29 => ?_)
 refine WL.nil ?_
 refine ⟨.inr (iS (by repeat constructor)), ?_⟩
 refine uG 7 rfl (by decide +kernel) (.inr (iS (by repeat constructor))) rfl (Ga 1 rfl rfl rfl) ?_
 refine WB.one 8 (by decide +kernel) rfl rfl ?_
 refine WL1.store1 rfl rfl (.mk rfl rfl) (.mk (v := .slice _ _ _) rfl rfl) rfl rfl (Nat.le_of_ble_eq_true rfl) (.tail (.tail (.tail (.tail (.head))))) ?_
 refine WL.nil ?_
 refine ⟨.inl (by decide +kernel), ?_⟩
 refine WB.done (by decide +kernel) ?_
 (refine hK _ _ ?_; clear hK)
 refine uS rfl fun K hK => ?_
 refine jm rfl rfl ?_
 refine ji rfl rfl (by omega) ?_
 refine jm rfl rfl ?_
 refine wN hK ?_; clear hK
 refine WC.seq fun K hK => ?_
 refine WC.block ?_
 obtain ⟨gv', hgv⟩ : ∃ gv', gv' = gv ++ [Value.slice A27 (0 + i) c27] := ⟨_, rfl⟩
 have hgl : gv'.length = gv.length + 1 := by rw [hgv, List.length_append]; rfl
 have hone' : ∀ u ∈ gv', u.oneCell' = true := fun u hu => by
   rw [hgv] at hu
   rcases List.mem_append.1 hu with hu | hu
   · exact hone u hu
   · rw [List.mem_singleton] at hu; rw [hu]; rfl
 refine WC.imp (M := [vec (some ⟨b13, 0, none⟩) i i 3 1 (ldv l), pt b5 DT [iv v, .slice A29 (gv.length + 1) c29], vec A29 (gv.length + 1) c29 29 1 gv', pt b4 DT [iv 0, .slice none 0 0]]) (by rw [hgv]; exact Imp.pick (by repeat constructor) (Imp.pick (by repeat constructor) (Imp.pick (by repeat constructor) (Imp.pick (by repeat constructor) (Imp.nil _))))) ?_
 clear hgv hone hco
 refine WC.loop (562941363486976) (fun j : Nat => [(8, iv ((j : Int) - 1))]) (fun _ => [vec (some ⟨b13, 0, none⟩) i i 3 1 (ldv l), pt b5 DT [iv v, .slice A29 (gv.length + 1) c29], vec A29 (gv.length + 1) c29 29 1 gv', pt b4 DT [iv 0, .slice none 0 0]]) (fun j => j ≤ i ∧ scn v i l i = scn v i l j) (fun j => j) i ⟨rfl, trivial⟩ (.refl _) ⟨by omega, rfl⟩ ?_
 rintro j U3 ⟨hj, hsc⟩
 cases j with
 | zero =>
   have hq0 : q' = 0 := by
     cases q' with
     | zero => rfl
     | succ p => rw [ends, hsc, scn] at hE; cases hE
   subst hq0
   refine WC.seq fun K hK => ?_
   refine uS rfl fun K hK => ?_
   refine jm rfl rfl ?_
   refine jf rfl rfl (by omega) ?_
   refine jm rfl rfl ?_
   iterate 10 refine ut rfl rfl ?_
   refine jm rfl rfl ?_
   refine wN hK ?_; clear hK
   refine uF rfl rfl ?_
   refine WC.exit ?_
   (clear hK; refine hK _ _ ?_; clear hK)
   refine WC.seq fun K hK => ?_
   refine uS rfl fun K hK => ?_
   refine jm rfl rfl ?_
   refine jt rfl rfl (by omega) ?_
   refine wN hK ?_; clear hK
   refine uT rfl rfl ?_
   refine uS rfl fun K hK => ?_
   refine wG rfl rfl (g_loadA rfl (.mk rfl rfl) rfl rfl (rdr_pt (.tail _ (.head _)) (fun j u h => by simpa using h))) ?_
   refine WL.want rfl (WL1.storeAll rfl rfl (.mk rfl rfl) (.mk rfl rfl) rfl (all1 rfl) (by first | rfl | (simp [Blk.len]; done)) (.tail (.tail (.tail (.head)))) ?_)
   refine wN hK ?_; clear hK
   refine WC.ret ?_
   refine ⟨_, .cell rfl rfl rfl rfl (by repeat constructor) .nil, fun w' hw' => ⟨_, [], rfl, hw'.sub (List.nil_sublist _), A29, c29, ?_, rfl⟩⟩
   show Value.agg #[iv v, .slice A29 (gv.length + 1) c29] = _
   rw [show gv.length = q from hgq]
 | succ p =>
   have hpi : p < i := by omega
   have hgp := ldv_get (ld := l) (k := p) (by omega)
   have hb := hlb p
   have hx : (((p + 1 : Nat) : Int) - 1).toNat = p := by omega
   have hsp : scn v i l (p + 1) = if nth l p = v - i + p then scn v i l p else p + 1 := rfl
   by_cases he : nth l p = v - i + p
   · rw [if_pos he] at hsp
     have hgp2 : (ldv l)[(((p + 1 : Nat) : Int) - 1).toNat * 1]? = some (iv ((v : Int) - i + (((p + 1 : Nat) : Int) - 1))) := by
       rw [hx, hgp, he]; congr 2; omega
     refine WC.seq fun K hK => ?_
     refine uS rfl fun K hK => ?_
     refine jm rfl rfl ?_
     refine jt rfl rfl (by omega) ?_
     refine jm rfl rfl ?_
     iterate 2 refine qm rfl rfl ?_
     refine qW rfl (WL1.give rfl (g_indexAddr (sz := 1) rfl (.mk rfl rfl) (.mk rfl rfl) rfl rfl (Int.toNat_of_nonneg (by omega)).symm (by omega) (fun _ _ => rfl)) ?_)
     refine ql rfl rfl rfl (rd_vec (by repeat constructor) hgp2) ?_
     iterate 2 refine qm rfl rfl ?_
     refine qi rfl rfl (by omega) ?_
     refine qm rfl rfl ?_
     refine qi rfl rfl (by omega) ?_
     refine qt rfl rfl (by omega) ?_
     refine jm rfl rfl ?_
     refine wN hK ?_; clear hK
     refine uT rfl rfl ?_
     refine WC.skip ?_
     (refine hK _ _ ?_; clear hK)
     refine WC.block ?_
     refine WC.region rfl ?_
     refine jm rfl rfl ?_
     refine ji rfl rfl (by omega) ?_
     refine jm rfl rfl ?_
     refine WL.nil ?_
     exact ⟨p, (by repeat (first | with_reducible exact .refl _ _ | refine .set rfl ?_ | refine .put rfl ?_ | refine .sets rfl ?_ | refine .hav rfl ?_ | exact .refl _ _)), ⟨by show iv _ = iv _; congr 1; omega, trivial⟩, .refl _, ⟨by omega, by rw [hsc, hsp]⟩, by omega⟩
   · rw [if_neg he] at hsp
     have hgp2 : (ldv l)[(((p + 1 : Nat) : Int) - 1).toNat * 1]? = some (iv (nth l p : Nat)) := by rw [hx]; exact hgp
     have hset : (ldv l).set ((((p + 1 : Nat) : Int) - 1).toNat * 1) (iv ((nth l p : Nat) + 1)) = ldv (filL (l.set p (nth l p + 1)) (p + 1) 0) := by
       rw [hx, Nat.mul_one]; exact ldv_set l p (nth l p + 1)
     obtain ⟨r, hr⟩ : ∃ r, q' = r + 1 := by
       cases q' with
       | zero => rw [ends, hsc, hsp] at hE; cases hE
       | succ r => exact ⟨r, rfl⟩
     subst hr
     rw [ends, hsc, hsp] at hE
     replace hE : ends v i r (nxtL i p l) = true := hE
     have hlb2 : ∀ q, nth (l.set p (nth l p + 1)) q ≤ 60 + 61 * gv.length + 1 := set_le (fun q => Nat.le_succ_of_le (hlb q)) (Nat.succ_le_succ (hlb p))
     have hl2 : (l.set p (nth l p + 1)).length = i := by rw [List.length_set]; exact hll
     refine WC.seq fun K hK => ?_
     refine uS rfl fun K hK => ?_
     refine jm rfl rfl ?_
     refine jt rfl rfl (by omega) ?_
     refine jm rfl rfl ?_
     iterate 2 refine qm rfl rfl ?_
     refine qW rfl (WL1.give rfl (g_indexAddr (sz := 1) rfl (.mk rfl rfl) (.mk rfl rfl) rfl rfl (Int.toNat_of_nonneg (by omega)).symm (by omega) (fun _ _ => rfl)) ?_)
     refine ql rfl rfl rfl (rd_vec (by repeat constructor) hgp2) ?_
     iterate 2 refine qm rfl rfl ?_
     refine qi rfl rfl (by omega) ?_
     refine qm rfl rfl ?_
     refine qi rfl rfl (by omega) ?_
     refine qf rfl rfl (by omega) ?_
     refine jm rfl rfl ?_
     refine wN hK ?_; clear hK
     refine uF rfl rfl ?_
     refine WC.exit ?_
     (clear hK; refine hK _ _ ?_; clear hK)
     refine WC.seq fun K hK => ?_
     refine uS rfl fun K hK => ?_
     refine jm rfl rfl ?_
     refine jf rfl rfl (by omega) ?_
     refine wN hK ?_; clear hK
     refine uF rfl rfl ?_
     refine WC.skip ?_
     (refine hK _ _ ?_; clear hK)
     refine uS rfl fun K hK => ?_
     iterate 2 refine jm rfl rfl ?_
     refine wG rfl rfl (g_indexAddr (sz := 1) rfl (.mk rfl rfl) (.mk rfl rfl) rfl rfl (Int.toNat_of_nonneg (by omega)).symm (by omega) (fun _ _ => rfl)) ?_
     refine jl rfl rfl rfl (rd_vec (by repeat constructor) hgp2) ?_
     refine ji rfl rfl (by omega) ?_
     refine wG rfl rfl (g_indexAddr (sz := 1) rfl (.mk rfl rfl) (.mk rfl rfl) rfl rfl (Int.toNat_of_nonneg (by omega)).symm (by omega) (fun _ _ => rfl)) ?_
     refine WL.want rfl (WL1.storeV1 rfl rfl (.mk rfl rfl) (.mk (v := .int _ _) rfl rfl) rfl rfl (by first | omega | (simp; done) | (simp; omega)) (.head) ?_)
     refine wN hK ?_; clear hK
     refine uS rfl fun K hK => ?_
     refine jm rfl rfl ?_
     refine ji rfl rfl (by omega) ?_
     refine jm rfl rfl ?_
     refine wN hK ?_; clear hK
     refine WC.block ?_
     rw [hset]
     refine WC.loop (18888313009973974008320) (fun d : Nat => [(9, iv ((p : Int) + 1 + d))]) (fun d => [vec (some ⟨b13, 0, none⟩) i i 3 1 (ldv (filL (l.set p (nth l p + 1)) (p + 1) d)), pt b5 DT [iv v, .slice A29 (gv.length + 1) c29], vec A29 (gv.length + 1) c29 29 1 gv', pt b4 DT [iv 0, .slice none 0 0]]) (fun d => p + 1 + d ≤ i) (fun d => i - d) 0 ⟨by show iv _ = iv _; congr 1; omega, trivial⟩ (.refl _) (by omega) ?_
     intro d U4 hd
     have hfl := filL_len (l.set p (nth l p + 1)) (p + 1) d
     have hfb := filL_le (j := p + 1) hlb2 d
     have hdl2 := ldv_len (filL (l.set p (nth l p + 1)) (p + 1) d)
     by_cases hlt : p + 1 + d < i
     · have hgd := ldv_get (ld := filL (l.set p (nth l p + 1)) (p + 1) d) (k := p + 1 + d - 1) (by omega)
       have hfs : filL (l.set p (nth l p + 1)) (p + 1) (d + 1) = (filL (l.set p (nth l p + 1)) (p + 1) d).set (p + 1 + d) (nth (filL (l.set p (nth l p + 1)) (p + 1) d) (p + 1 + d - 1) + 1) := rfl
       have hbd := hfb (p + 1 + d - 1)
       have hx2 : ((p : Int) + 1 + d - 1).toNat = p + 1 + d - 1 := by omega
       have hx3 : ((p : Int) + 1 + d).toNat = p + 1 + d := by omega
       rw [← hx2] at hgd
       generalize filL (l.set p (nth l p + 1)) (p + 1) d = f at *
       rw [hx2] at hgd
       have hgd2 : (ldv f)[((p : Int) + 1 + d - 1).toNat * 1]? = some (iv (nth f (p + 1 + d - 1) : Nat)) := by rw [hx2]; exact hgd
       refine WC.seq fun K hK => ?_
       refine uS rfl fun K hK => ?_
       iterate 2 refine jm rfl rfl ?_
       refine jt rfl rfl (by omega) ?_
       refine wN hK ?_; clear hK
       refine uT rfl rfl ?_
       refine WC.skip ?_
       (refine hK _ _ ?_; clear hK)
       refine WC.seq fun K hK => ?_
       refine WC.block ?_
       refine WC.region rfl ?_
       iterate 4 refine jm rfl rfl ?_
       refine ji rfl rfl (by omega) ?_
       refine wG rfl rfl (g_indexAddr (sz := 1) rfl (.mk rfl rfl) (.mk rfl rfl) rfl rfl (Int.toNat_of_nonneg (by omega)).symm (by omega) (fun _ _ => rfl)) ?_
       refine jl rfl rfl rfl (rd_vec (by repeat constructor) hgd2) ?_
       refine ji rfl rfl (by omega) ?_
       refine jx 1 rfl rfl rfl rfl rfl (by omega) rfl ?_
       refine WL.want rfl (WL1.storeV1 rfl rfl (.mk rfl rfl) (.mk (v := .int _ _) rfl rfl) rfl rfl (by first | omega | (simp; done) | (simp; omega)) (.head) ?_)
       refine wN hK ?_; clear hK
       refine WC.region rfl ?_
       refine jm rfl rfl ?_
       refine ji rfl rfl (by omega) ?_
       refine jm rfl rfl ?_
       refine WL.nil ?_
       have e : ldv (filL (l.set p (nth l p + 1)) (p + 1) (d + 1)) = (ldv f).set (p + 1 + d) (iv ((nth f (p + 1 + d - 1) : Nat) + 1)) := by rw [hfs, ← ldv_set]; rfl
       refine ⟨d + 1, (by repeat (first | with_reducible exact .refl _ _ | refine .set rfl ?_ | refine .put rfl ?_ | refine .sets rfl ?_ | refine .hav rfl ?_ | exact .refl _ _)), ⟨by show iv _ = iv _; congr 1 <;> omega, trivial⟩, ?_, by omega, by omega⟩
       rw [Nat.mul_one, e]
       exact .refl _
     · obtain rfl : i = p + 1 + d := by omega
       refine WC.seq fun K hK => ?_
       refine uS rfl fun K hK => ?_
       iterate 2 refine jm rfl rfl ?_
       refine jf rfl rfl (by omega) ?_
       refine wN hK ?_; clear hK
       refine uF rfl rfl ?_
       refine WC.exit ?_
       have e : nxtL (p + 1 + d) p l = filL (l.set p (nth l p + 1)) (p + 1) d := by unfold nxtL; rw [show p + 1 + d - (p + 1) = d from by omega]
       refine ⟨r, nxtL (p + 1 + d) p l, (A29, c29), gv', (by repeat (first | with_reducible exact .refl _ _ | refine .set rfl ?_ | refine .put rfl ?_ | refine .sets rfl ?_ | refine .hav rfl ?_ | exact .refl _ _)), trivial, ?_, ⟨by omega, hE, by rw [nxtL_len]; exact hll, fun q => ?_, hone'⟩, by omega⟩
       · dsimp only
         rw [hgl, e]
         exact Imp.refl _
       · have := nxtL_le (k := p + 1 + d) (i := p) hlb (by omega) q
         rw [hgl]; omega
theorem rcount_e (n k : Nat) (w : World) (hn : n ≤ 60) (hk : k ≤ n) (hb : ∀ i, i ≤ k → cntF n i ≤ 1000000) : Calls Tryz.prog 151 #[iv n, iv k] w fun e w' => e = .returned (iv (cntF n k)) ∧ Below w.heap.size w w' := by
 refine calls_wc (args := [iv n, iv k]) [4] ([]) Tryz.func151 rfl Tryz.ntmps151 rfl rfl rfl rfl (H.refl w) ?_
 refine uS rfl fun K hK => ?_
 refine jm rfl rfl ?_
 refine wN hK ?_; clear hK
 refine uS rfl fun K hK => ?_
 refine jm rfl rfl ?_
 refine wN hK ?_; clear hK
 refine WC.seq fun K hK => ?_
 refine uS rfl fun K hK => ?_
 refine jm rfl rfl ?_
 refine wN hK ?_; clear hK
 refine WC.block ?_
 refine WC.loop (8388592) (fun i : Nat => [(6, iv i), (5, iv (cntF n i))]) (fun _ => []) (fun i => i ≤ k) (fun i => k - i) 0 ⟨rfl, rfl, trivial⟩ (.refl _) (by omega) ?_
 intro i U hi
 have hbi := hb i hi
 by_cases hlt : i < k
 · have hb2 := hb (i + 1) (by omega)
   have e1 : cntF n (i + 1) = cntF n i * (n - i) / (i + 1) := rfl
   generalize hy : cntF n (i + 1) = y at e1 hb2
   generalize hx : cntF n i = x at hbi e1
   have hm : x * (n - i) ≤ 1000000 * 60 := Nat.mul_le_mul hbi (by omega)
   have hmul : IntKind.i64.wrap ((x : Int) * ((n : Int) - i)) = ((x * (n - i) : Nat) : Int) := by
     rw [show (n : Int) - i = ((n - i : Nat) : Int) from by omega, ← Int.natCast_mul]
     exact IntWalk.i64_in _ (by omega)
   generalize x * (n - i) = z at *
   have hq2 : (z : Int) / ((i : Int) + 1) = (y : Int) := by rw [e1]; exact (Int.natCast_ediv z (i + 1)).symm
   refine WC.seq fun K hK => ?_
   refine uS rfl fun K hK => ?_
   iterate 2 refine jm rfl rfl ?_
   refine jt rfl rfl (by omega) ?_
   refine wN hK ?_; clear hK
   refine uT rfl rfl ?_
   refine WC.skip ?_
   (refine hK _ _ ?_; clear hK)
   refine WC.seq fun K hK => ?_
   refine WC.block ?_
   refine uS rfl fun K hK => ?_
   iterate 3 refine jm rfl rfl ?_
   refine ji rfl rfl (by omega) ?_
   refine wG rfl rfl (g_mul rfl (.mk rfl rfl) (.mk rfl rfl) hmul) ?_
   refine jm rfl rfl ?_
   refine ji rfl rfl (by omega) ?_
   refine wG rfl rfl (g_quo rfl (.mk rfl rfl) (.mk rfl rfl) (by omega) (IntWalk.i64_quo _ _ (by omega))) ?_
   refine jm rfl rfl ?_
   refine wN hK ?_; clear hK
   refine uS rfl fun K hK => ?_
   refine jm rfl rfl ?_
   refine jf rfl rfl (by omega) ?_
   refine wN hK ?_; clear hK
   refine uF rfl rfl ?_
   refine WC.skip ?_
   (refine hK _ _ ?_; clear hK)
   refine WC.region rfl ?_
   refine jm rfl rfl ?_
   refine ji rfl rfl (by omega) ?_
   refine jm rfl rfl ?_
   refine WL.nil ?_
   exact ⟨i + 1, (by repeat (first | with_reducible exact .refl _ _ | refine .set rfl ?_ | refine .put rfl ?_ | refine .sets rfl ?_ | refine .hav rfl ?_ | exact .refl _ _)), ⟨rfl, by rw [hy, ← hq2]; rfl, trivial⟩, .refl _, by omega, by omega⟩
 · obtain rfl : i = k := by omega
   refine WC.seq fun K hK => ?_
   refine uS rfl fun K hK => ?_
   iterate 2 refine jm rfl rfl ?_
   refine jf rfl rfl (by omega) ?_
   refine wN hK ?_; clear hK
   refine uF rfl rfl ?_
   refine WC.exit ?_
   (clear hK; refine hK _ _ ?_; clear hK)
   refine uS rfl fun K hK => ?_
   iterate 2 refine jm rfl rfl ?_
   refine wN hK ?_; clear hK
   refine WC.ret ?_
   exact fun w' hw' => ⟨rfl, hw'.1⟩
structure RCmp (v k q : Nat) : Prop where
 c : Cmp v k
 v5 : 5 ≤ v
 v13 : v ≤ 13
 k6 : k ≤ 6
 q4 : q ≤ 4096
 e : ends v k q (List.range k) = true
theorem rcmp_spec {v k q : Nat} (h : (cmpB v k && Nat.ble 5 v && Nat.ble v 13 && Nat.ble k 6 && Nat.ble q 4096 && ends v k q (List.range k)) = true) : RCmp v k q := by
 simp only [Bool.and_eq_true] at h
 exact ⟨cmpB_spec h.1.1.1.1.1, Nat.le_of_ble_eq_true h.1.1.1.1.2, Nat.le_of_ble_eq_true h.1.1.1.2, Nat.le_of_ble_eq_true h.1.1.2, Nat.le_of_ble_eq_true h.1.2, h.2⟩
theorem rCount_e (v k : Nat) (w : World) (h : Cmp v k) : Calls Tryz.prog 103 #[iv v, iv k] w fun e w' => e = .returned (iv (cntF v (min k (v - k)))) ∧ Below w.heap.size w w' := by
 have hv60 := h.v60
 have hkv := h.kv
 have hmin : (if (v : Int) - k < k then (v : Int) - k else (k : Int)) = ((min k (v - k) : Nat) : Int) := by split <;> omega
 have hcnt := fun w => rcount_e v (min k (v - k)) w hv60 (by omega) h.b
 rw [← hmin] at hcnt
 refine calls_wc (args := [iv v, iv k]) [4] [] Tryz.func103 rfl Tryz.ntmps103 rfl rfl rfl rfl (H.refl _) ?_
 refine uS rfl fun K hK => ?_
 refine jm rfl rfl ?_
 refine wN hK ?_; clear hK
 refine uS rfl fun K hK => ?_
 iterate 4 refine jm rfl rfl ?_
 refine ji rfl rfl (by omega) ?_
 refine wG rfl rfl (g_min rfl (.mk rfl rfl) (.mk rfl rfl) rfl) ?_
 refine WL.want rfl (WL1.callP rfl rfl rfl (.cons (.mk (v := .int _ _) rfl rfl) (.cons (.mk (v := .int _ _) rfl rfl) .nil)) (fun w hw => hcnt w) ?_)
 refine jm rfl rfl ?_
 refine wN hK ?_; clear hK
 refine WC.ret ?_
 exact fun w' hw' => ⟨rfl, hw'.1⟩
set_option maxHeartbeats 2000000 in
theorem rchoose_n (v k q : Nat) (w : World) (h : RCmp v k q) (h13 : ¬ (v = 13 ∧ k = 4)) :
   Calls Tryz.prog 55 #[iv v, iv k] w fun e w' => ∃ u M, e = .returned u ∧ H w M w' ∧ ∃ A c, u = .tuple #[.agg #[iv v, .slice A (q + 1) c], iv 0] ∧ M = [] := by
 have hv5 := h.v5
 have hv13 := h.v13
 have hk4 := h.c.k4
 have hk6 := h.k6
 have hkv := h.c.kv
 have hcc := h.c.c
 have hct := fun w => rCount_e v k w h.c
 have hcp := fun w => rcomplete_n v k q w (by omega) (by omega) hkv h.q4 h.e
 generalize cntF v (min k (v - k)) = cn at hcc hct
 refine calls_wcG (args := [iv v, iv k]) [.cell 4 61, .tmp 5] [] Tryz.func55 rfl Tryz.ntmps55 rfl rfl (H.refl _) ?_
 refine uS rfl fun K hK => ?_
 refine WL.want rfl (WL1.alloc rfl rfl rfl rfl (fun b4 => ?_))
 refine jm rfl rfl ?_
 refine wN hK ?_; clear hK
 refine WC.seq fun K hK => ?_
 refine uS rfl fun K hK => ?_
 refine jm rfl rfl ?_
 refine jf rfl rfl (by omega) ?_
 refine jm rfl rfl ?_
 refine qm rfl rfl ?_
 refine qf rfl rfl (by omega) ?_
 iterate 2 refine jm rfl rfl ?_
 iterate 2 refine qm rfl rfl ?_
 refine qf rfl rfl (by omega) ?_
 iterate 2 refine jm rfl rfl ?_
 refine qm rfl rfl ?_
 refine qf rfl rfl (by omega) ?_
 refine jm rfl rfl ?_
 refine wN hK ?_; clear hK
 refine uF rfl rfl ?_
 refine WC.skip ?_
 (refine hK _ _ ?_; clear hK)
 refine uS rfl fun K hK => ?_
 refine WL.want rfl (WL1.lit (cs := [_, _, _, _, _]) elI rfl rfl rfl (.cons (.mk (v := .int _ _) rfl rfl) (.cons (.mk (v := .int _ _) rfl rfl) (.cons (.mk (v := .int _ _) rfl rfl) (.cons (.mk (v := .int _ _) rfl rfl) (.cons (.mk (v := .int _ _) rfl rfl) .nil))))) rfl (by first | (simp [Value.cells]; done) | fail) rfl rfl (fun b27 => ?_))
 refine jm rfl rfl ?_
 refine wN hK ?_; clear hK
 refine WC.seq fun K hK => ?_
 refine uS rfl fun K hK => ?_
 refine jm rfl rfl ?_
 refine wN hK ?_; clear hK
 refine WC.block ?_
 refine WC.loop (18014398241046944) (fun i : Nat => [(7, iv i)]) (fun _ => [vec (some ⟨b27, 0, none⟩) 5 5 3 1 [iv 2, iv 3, iv 4, iv 5, iv 7], pt b4 DT [iv 0, .slice none 0 0]]) (fun i => i ≤ 5) (fun i => 5 - i) 0 ⟨rfl, trivial⟩ (.refl _) (by omega) ?_
 intro i U hi
 obtain rfl | rfl | rfl | rfl | rfl | rfl : i = 0 ∨ i = 1 ∨ i = 2 ∨ i = 3 ∨ i = 4 ∨ i = 5 := by omega
 · by_cases h7 : v = 7
   · refine WC.seq fun K hK => ?_
     refine uS rfl fun K hK => ?_
     iterate 2 refine jm rfl rfl ?_
     refine jn rfl rfl rfl ?_
     refine jt rfl rfl (by omega) ?_
     refine wN hK ?_; clear hK
     refine uT rfl rfl ?_
     refine WC.skip ?_
     (refine hK _ _ ?_; clear hK)
     refine WC.seq fun K hK => ?_
     refine WC.block ?_
     refine uS rfl fun K hK => ?_
     iterate 2 refine jm rfl rfl ?_
     refine wG rfl rfl (g_indexAddr (sz := 1) rfl (.mk rfl rfl) (.mk rfl rfl) rfl rfl (show _ = ((0 : Nat) : Int) from rfl) (by omega) (fun _ _ => rfl)) ?_
     refine jl rfl rfl rfl (rd_vec (.head _) rfl) ?_
     refine jm rfl rfl ?_
     refine wN hK ?_; clear hK
     refine uS rfl fun K hK => ?_
     iterate 3 refine jm rfl rfl ?_
     refine ji rfl rfl (by omega) ?_
     refine jm rfl rfl ?_
     iterate 2 refine ji rfl rfl (by omega) ?_
     refine jt rfl rfl (by omega) ?_
     refine jm rfl rfl ?_
     iterate 2 refine qm rfl rfl ?_
     refine qi rfl rfl (by omega) ?_
     refine qf rfl rfl (by omega) ?_
     refine jm rfl rfl ?_
     refine wN hK ?_; clear hK
     refine uF rfl rfl ?_
     refine WC.skip ?_
     (refine hK _ _ ?_; clear hK)
     refine WC.region rfl ?_
     refine jm rfl rfl ?_
     refine ji rfl rfl (by omega) ?_
     refine jm rfl rfl ?_
     refine WL.nil ?_
     exact ⟨1, (by repeat (first | with_reducible exact .refl _ _ | refine .set rfl ?_ | refine .put rfl ?_ | refine .sets rfl ?_ | refine .hav rfl ?_ | exact .refl _ _)), ⟨rfl, trivial⟩, .refl _, by omega, by omega⟩
   · refine WC.seq fun K hK => ?_
     refine uS rfl fun K hK => ?_
     iterate 2 refine jm rfl rfl ?_
     refine jn rfl rfl rfl ?_
     refine jt rfl rfl (by omega) ?_
     refine wN hK ?_; clear hK
     refine uT rfl rfl ?_
     refine WC.skip ?_
     (refine hK _ _ ?_; clear hK)
     refine WC.seq fun K hK => ?_
     refine WC.block ?_
     refine uS rfl fun K hK => ?_
     iterate 2 refine jm rfl rfl ?_
     refine wG rfl rfl (g_indexAddr (sz := 1) rfl (.mk rfl rfl) (.mk rfl rfl) rfl rfl (show _ = ((0 : Nat) : Int) from rfl) (by omega) (fun _ _ => rfl)) ?_
     refine jl rfl rfl rfl (rd_vec (.head _) rfl) ?_
     refine jm rfl rfl ?_
     refine wN hK ?_; clear hK
     refine uS rfl fun K hK => ?_
     iterate 3 refine jm rfl rfl ?_
     refine ji rfl rfl (by omega) ?_
     refine jm rfl rfl ?_
     iterate 2 refine ji rfl rfl (by omega) ?_
     refine jf rfl rfl (by omega) ?_
     refine jm rfl rfl ?_
     iterate 4 refine ut rfl rfl ?_
     refine jm rfl rfl ?_
     refine wN hK ?_; clear hK
     refine uF rfl rfl ?_
     refine WC.skip ?_
     (refine hK _ _ ?_; clear hK)
     refine WC.region rfl ?_
     refine jm rfl rfl ?_
     refine ji rfl rfl (by omega) ?_
     refine jm rfl rfl ?_
     refine WL.nil ?_
     exact ⟨1, (by repeat (first | with_reducible exact .refl _ _ | refine .set rfl ?_ | refine .put rfl ?_ | refine .sets rfl ?_ | refine .hav rfl ?_ | exact .refl _ _)), ⟨rfl, trivial⟩, .refl _, by omega, by omega⟩
 · by_cases h7 : v = 13
   · refine WC.seq fun K hK => ?_
     refine uS rfl fun K hK => ?_
     iterate 2 refine jm rfl rfl ?_
     refine jn rfl rfl rfl ?_
     refine jt rfl rfl (by omega) ?_
     refine wN hK ?_; clear hK
     refine uT rfl rfl ?_
     refine WC.skip ?_
     (refine hK _ _ ?_; clear hK)
     refine WC.seq fun K hK => ?_
     refine WC.block ?_
     refine uS rfl fun K hK => ?_
     iterate 2 refine jm rfl rfl ?_
     refine wG rfl rfl (g_indexAddr (sz := 1) rfl (.mk rfl rfl) (.mk rfl rfl) rfl rfl (show _ = ((1 : Nat) : Int) from rfl) (by omega) (fun _ _ => rfl)) ?_
     refine jl rfl rfl rfl (rd_vec (.head _) rfl) ?_
     refine jm rfl rfl ?_
     refine wN hK ?_; clear hK
     refine uS rfl fun K hK => ?_
     iterate 3 refine jm rfl rfl ?_
     refine ji rfl rfl (by omega) ?_
     refine jm rfl rfl ?_
     iterate 2 refine ji rfl rfl (by omega) ?_
     refine jt rfl rfl (by omega) ?_
     refine jm rfl rfl ?_
     iterate 2 refine qm rfl rfl ?_
     refine qi rfl rfl (by omega) ?_
     refine qf rfl rfl (by omega) ?_
     refine jm rfl rfl ?_
     refine wN hK ?_; clear hK
     refine uF rfl rfl ?_
     refine WC.skip ?_
     (refine hK _ _ ?_; clear hK)
     refine WC.region rfl ?_
     refine jm rfl rfl ?_
     refine ji rfl rfl (by omega) ?_
     refine jm rfl rfl ?_
     refine WL.nil ?_
     exact ⟨2, (by repeat (first | with_reducible exact .refl _ _ | refine .set rfl ?_ | refine .put rfl ?_ | refine .sets rfl ?_ | refine .hav rfl ?_ | exact .refl _ _)), ⟨rfl, trivial⟩, .refl _, by omega, by omega⟩
   · refine WC.seq fun K hK => ?_
     refine uS rfl fun K hK => ?_
     iterate 2 refine jm rfl rfl ?_
     refine jn rfl rfl rfl ?_
     refine jt rfl rfl (by omega) ?_
     refine wN hK ?_; clear hK
     refine uT rfl rfl ?_
     refine WC.skip ?_
     (refine hK _ _ ?_; clear hK)
     refine WC.seq fun K hK => ?_
     refine WC.block ?_
     refine uS rfl fun K hK => ?_
     iterate 2 refine jm rfl rfl ?_
     refine wG rfl rfl (g_indexAddr (sz := 1) rfl (.mk rfl rfl) (.mk rfl rfl) rfl rfl (show _ = ((1 : Nat) : Int) from rfl) (by omega) (fun _ _ => rfl)) ?_
     refine jl rfl rfl rfl (rd_vec (.head _) rfl) ?_
     refine jm rfl rfl ?_
     refine wN hK ?_; clear hK
     refine uS rfl fun K hK => ?_
     iterate 3 refine jm rfl rfl ?_
     refine ji rfl rfl (by omega) ?_
     refine jm rfl rfl ?_
     iterate 2 refine ji rfl rfl (by omega) ?_
     refine jf rfl rfl (by omega) ?_
     refine jm rfl rfl ?_
     iterate 4 refine ut rfl rfl ?_
     refine jm rfl rfl ?_
     refine wN hK ?_; clear hK
     refine uF rfl rfl ?_
     refine WC.skip ?_
     (refine hK _ _ ?_; clear hK)
     refine WC.region rfl ?_
     refine jm rfl rfl ?_
     refine ji rfl rfl (by omega) ?_
     refine jm rfl rfl ?_
     refine WL.nil ?_
     exact ⟨2, (by repeat (first | with_reducible exact .refl _ _ | refine .set rfl ?_ | refine .put rfl ?_ | refine .sets rfl ?_ | refine .hav rfl ?_ | exact .refl _ _)), ⟨rfl, trivial⟩, .refl _, by omega, by omega⟩
 · refine WC.seq fun K hK => ?_
   refine uS rfl fun K hK => ?_
   iterate 2 refine jm rfl rfl ?_
   refine jn rfl rfl rfl ?_
   refine jt rfl rfl (by omega) ?_
   refine wN hK ?_; clear hK
   refine uT rfl rfl ?_
   refine WC.skip ?_
   (refine hK _ _ ?_; clear hK)
   refine WC.seq fun K hK => ?_
   refine WC.block ?_
   refine uS rfl fun K hK => ?_
   iterate 2 refine jm rfl rfl ?_
   refine wG rfl rfl (g_indexAddr (sz := 1) rfl (.mk rfl rfl) (.mk rfl rfl) rfl rfl (show _ = ((2 : Nat) : Int) from rfl) (by omega) (fun _ _ => rfl)) ?_
   refine jl rfl rfl rfl (rd_vec (.head _) rfl) ?_
   refine jm rfl rfl ?_
   refine wN hK ?_; clear hK
   refine uS rfl fun K hK => ?_
   iterate 3 refine jm rfl rfl ?_
   refine ji rfl rfl (by omega) ?_
   refine jm rfl rfl ?_
   iterate 2 refine ji rfl rfl (by omega) ?_
   refine jf rfl rfl (by omega) ?_
   refine jm rfl rfl ?_
   iterate 4 refine ut rfl rfl ?_
   refine jm rfl rfl ?_
   refine wN hK ?_; clear hK
   refine uF rfl rfl ?_
   refine WC.skip ?_
   (refine hK _ _ ?_; clear hK)
   refine WC.region rfl ?_
   refine jm rfl rfl ?_
   refine ji rfl rfl (by omega) ?_
   refine jm rfl rfl ?_
   refine WL.nil ?_
   exact ⟨3, (by repeat (first | with_reducible exact .refl _ _ | refine .set rfl ?_ | refine .put rfl ?_ | refine .sets rfl ?_ | refine .hav rfl ?_ | exact .refl _ _)), ⟨rfl, trivial⟩, .refl _, by omega, by omega⟩
 · refine WC.seq fun K hK => ?_
   refine uS rfl fun K hK => ?_
   iterate 2 refine jm rfl rfl ?_
   refine jn rfl rfl rfl ?_
   refine jt rfl rfl (by omega) ?_
   refine wN hK ?_; clear hK
   refine uT rfl rfl ?_
   refine WC.skip ?_
   (refine hK _ _ ?_; clear hK)
   refine WC.seq fun K hK => ?_
   refine WC.block ?_
   refine uS rfl fun K hK => ?_
   iterate 2 refine jm rfl rfl ?_
   refine wG rfl rfl (g_indexAddr (sz := 1) rfl (.mk rfl rfl) (.mk rfl rfl) rfl rfl (show _ = ((3 : Nat) : Int) from rfl) (by omega) (fun _ _ => rfl)) ?_
   refine jl rfl rfl rfl (rd_vec (.head _) rfl) ?_
   refine jm rfl rfl ?_
   refine wN hK ?_; clear hK
   refine uS rfl fun K hK => ?_
   iterate 3 refine jm rfl rfl ?_
   refine ji rfl rfl (by omega) ?_
   refine jm rfl rfl ?_
   iterate 2 refine ji rfl rfl (by omega) ?_
   refine jf rfl rfl (by omega) ?_
   refine jm rfl rfl ?_
   iterate 4 refine ut rfl rfl ?_
   refine jm rfl rfl ?_
   refine wN hK ?_; clear hK
   refine uF rfl rfl ?_
   refine WC.skip ?_
   (refine hK _ _ ?_; clear hK)
   refine WC.region rfl ?_
   refine jm rfl rfl ?_
   refine ji rfl rfl (by omega) ?_
   refine jm rfl rfl ?_
   refine WL.nil ?_
   exact ⟨4, (by repeat (first | with_reducible exact .refl _ _ | refine .set rfl ?_ | refine .put rfl ?_ | refine .sets rfl ?_ | refine .hav rfl ?_ | exact .refl _ _)), ⟨rfl, trivial⟩, .refl _, by omega, by omega⟩
 · refine WC.seq fun K hK => ?_
   refine uS rfl fun K hK => ?_
   iterate 2 refine jm rfl rfl ?_
   refine jn rfl rfl rfl ?_
   refine jt rfl rfl (by omega) ?_
   refine wN hK ?_; clear hK
   refine uT rfl rfl ?_
   refine WC.skip ?_
   (refine hK _ _ ?_; clear hK)
   refine WC.seq fun K hK => ?_
   refine WC.block ?_
   refine uS rfl fun K hK => ?_
   iterate 2 refine jm rfl rfl ?_
   refine wG rfl rfl (g_indexAddr (sz := 1) rfl (.mk rfl rfl) (.mk rfl rfl) rfl rfl (show _ = ((4 : Nat) : Int) from rfl) (by omega) (fun _ _ => rfl)) ?_
   refine jl rfl rfl rfl (rd_vec (.head _) rfl) ?_
   refine jm rfl rfl ?_
   refine wN hK ?_; clear hK
   refine uS rfl fun K hK => ?_
   iterate 3 refine jm rfl rfl ?_
   refine ji rfl rfl (by omega) ?_
   refine jm rfl rfl ?_
   iterate 2 refine ji rfl rfl (by omega) ?_
   refine jf rfl rfl (by omega) ?_
   refine jm rfl rfl ?_
   iterate 4 refine ut rfl rfl ?_
   refine jm rfl rfl ?_
   refine wN hK ?_; clear hK
   refine uF rfl rfl ?_
   refine WC.skip ?_
   (refine hK _ _ ?_; clear hK)
   refine WC.region rfl ?_
   refine jm rfl rfl ?_
   refine ji rfl rfl (by omega) ?_
   refine jm rfl rfl ?_
   refine WL.nil ?_
   exact ⟨5, (by repeat (first | with_reducible exact .refl _ _ | refine .set rfl ?_ | refine .put rfl ?_ | refine .sets rfl ?_ | refine .hav rfl ?_ | exact .refl _ _)), ⟨rfl, trivial⟩, .refl _, by omega, by omega⟩
 · refine WC.seq fun K hK => ?_
   refine uS rfl fun K hK => ?_
   iterate 2 refine jm rfl rfl ?_
   refine jn rfl rfl rfl ?_
   refine jf rfl rfl (by omega) ?_
   refine wN hK ?_; clear hK
   refine uF rfl rfl ?_
   refine WC.exit ?_
   (clear hK; refine hK _ _ ?_; clear hK)
   refine WC.seq fun K hK => ?_
   refine uS rfl fun K hK => ?_
   refine jm rfl rfl ?_
   refine wN hK ?_; clear hK
   refine WC.block ?_
   refine WC.loop (75557845711515813938720) (fun i : Nat => [(9, iv i)]) (fun _ => [vec (some ⟨b27, 0, none⟩) 5 5 3 1 [iv 2, iv 3, iv 4, iv 5, iv 7], pt b4 DT [iv 0, .slice none 0 0]]) (fun i => i ≤ 5) (fun i => 5 - i) 0 ⟨rfl, trivial⟩ (.refl _) (by omega) ?_
   intro i U hi
   obtain rfl | rfl | rfl | rfl | rfl | rfl : i = 0 ∨ i = 1 ∨ i = 2 ∨ i = 3 ∨ i = 4 ∨ i = 5 := by omega
   · refine WC.seq fun K hK => ?_
     refine uS rfl fun K hK => ?_
     iterate 2 refine jm rfl rfl ?_
     refine jn rfl rfl rfl ?_
     refine jt rfl rfl (by omega) ?_
     refine wN hK ?_; clear hK
     refine uT rfl rfl ?_
     refine WC.skip ?_
     (refine hK _ _ ?_; clear hK)
     refine WC.seq fun K hK => ?_
     refine WC.block ?_
     refine uS rfl fun K hK => ?_
     iterate 2 refine jm rfl rfl ?_
     refine wG rfl rfl (g_indexAddr (sz := 1) rfl (.mk rfl rfl) (.mk rfl rfl) rfl rfl (show _ = ((0 : Nat) : Int) from rfl) (by omega) (fun _ _ => rfl)) ?_
     refine jl rfl rfl rfl (rd_vec (.head _) rfl) ?_
     refine jm rfl rfl ?_
     refine wN hK ?_; clear hK
     refine uS rfl fun K hK => ?_
     iterate 3 refine jm rfl rfl ?_
     refine ji rfl rfl (by omega) ?_
     refine jf rfl rfl (by omega) ?_
     refine jm rfl rfl ?_
     iterate 3 refine ut rfl rfl ?_
     refine jm rfl rfl ?_
     refine wN hK ?_; clear hK
     refine uF rfl rfl ?_
     refine WC.skip ?_
     (refine hK _ _ ?_; clear hK)
     refine WC.region rfl ?_
     refine jm rfl rfl ?_
     refine ji rfl rfl (by omega) ?_
     refine jm rfl rfl ?_
     refine WL.nil ?_
     exact ⟨1, (by repeat (first | with_reducible exact .refl _ _ | refine .set rfl ?_ | refine .put rfl ?_ | refine .sets rfl ?_ | refine .hav rfl ?_ | exact .refl _ _)), ⟨rfl, trivial⟩, .refl _, by omega, by omega⟩
   · by_cases h9 : v = 9
     · refine WC.seq fun K hK => ?_
       refine uS rfl fun K hK => ?_
       iterate 2 refine jm rfl rfl ?_
       refine jn rfl rfl rfl ?_
       refine jt rfl rfl (by omega) ?_
       refine wN hK ?_; clear hK
       refine uT rfl rfl ?_
       refine WC.skip ?_
       (refine hK _ _ ?_; clear hK)
       refine WC.seq fun K hK => ?_
       refine WC.block ?_
       refine uS rfl fun K hK => ?_
       iterate 2 refine jm rfl rfl ?_
       refine wG rfl rfl (g_indexAddr (sz := 1) rfl (.mk rfl rfl) (.mk rfl rfl) rfl rfl (show _ = ((1 : Nat) : Int) from rfl) (by omega) (fun _ _ => rfl)) ?_
       refine jl rfl rfl rfl (rd_vec (.head _) rfl) ?_
       refine jm rfl rfl ?_
       refine wN hK ?_; clear hK
       refine uS rfl fun K hK => ?_
       iterate 3 refine jm rfl rfl ?_
       refine ji rfl rfl (by omega) ?_
       refine jt rfl rfl (by omega) ?_
       refine jm rfl rfl ?_
       iterate 2 refine qm rfl rfl ?_
       refine qf rfl rfl (by omega) ?_
       refine jm rfl rfl ?_
       refine wN hK ?_; clear hK
       refine uF rfl rfl ?_
       refine WC.skip ?_
       (refine hK _ _ ?_; clear hK)
       refine WC.region rfl ?_
       refine jm rfl rfl ?_
       refine ji rfl rfl (by omega) ?_
       refine jm rfl rfl ?_
       refine WL.nil ?_
       exact ⟨2, (by repeat (first | with_reducible exact .refl _ _ | refine .set rfl ?_ | refine .put rfl ?_ | refine .sets rfl ?_ | refine .hav rfl ?_ | exact .refl _ _)), ⟨rfl, trivial⟩, .refl _, by omega, by omega⟩
     · refine WC.seq fun K hK => ?_
       refine uS rfl fun K hK => ?_
       iterate 2 refine jm rfl rfl ?_
       refine jn rfl rfl rfl ?_
       refine jt rfl rfl (by omega) ?_
       refine wN hK ?_; clear hK
       refine uT rfl rfl ?_
       refine WC.skip ?_
       (refine hK _ _ ?_; clear hK)
       refine WC.seq fun K hK => ?_
       refine WC.block ?_
       refine uS rfl fun K hK => ?_
       iterate 2 refine jm rfl rfl ?_
       refine wG rfl rfl (g_indexAddr (sz := 1) rfl (.mk rfl rfl) (.mk rfl rfl) rfl rfl (show _ = ((1 : Nat) : Int) from rfl) (by omega) (fun _ _ => rfl)) ?_
       refine jl rfl rfl rfl (rd_vec (.head _) rfl) ?_
       refine jm rfl rfl ?_
       refine wN hK ?_; clear hK
       refine uS rfl fun K hK => ?_
       iterate 3 refine jm rfl rfl ?_
       refine ji rfl rfl (by omega) ?_
       refine jf rfl rfl (by omega) ?_
       refine jm rfl rfl ?_
       iterate 3 refine ut rfl rfl ?_
       refine jm rfl rfl ?_
       refine wN hK ?_; clear hK
       refine uF rfl rfl ?_
       refine WC.skip ?_
       (refine hK _ _ ?_; clear hK)
       refine WC.region rfl ?_
       refine jm rfl rfl ?_
       refine ji rfl rfl (by omega) ?_
       refine jm rfl rfl ?_
       refine WL.nil ?_
       exact ⟨2, (by repeat (first | with_reducible exact .refl _ _ | refine .set rfl ?_ | refine .put rfl ?_ | refine .sets rfl ?_ | refine .hav rfl ?_ | exact .refl _ _)), ⟨rfl, trivial⟩, .refl _, by omega, by omega⟩
   · refine WC.seq fun K hK => ?_
     refine uS rfl fun K hK => ?_
     iterate 2 refine jm rfl rfl ?_
     refine jn rfl rfl rfl ?_
     refine jt rfl rfl (by omega) ?_
     refine wN hK ?_; clear hK
     refine uT rfl rfl ?_
     refine WC.skip ?_
     (refine hK _ _ ?_; clear hK)
     refine WC.seq fun K hK => ?_
     refine WC.block ?_
     refine uS rfl fun K hK => ?_
     iterate 2 refine jm rfl rfl ?_
     refine wG rfl rfl (g_indexAddr (sz := 1) rfl (.mk rfl rfl) (.mk rfl rfl) rfl rfl (show _ = ((2 : Nat) : Int) from rfl) (by omega) (fun _ _ => rfl)) ?_
     refine jl rfl rfl rfl (rd_vec (.head _) rfl) ?_
     refine jm rfl rfl ?_
     refine wN hK ?_; clear hK
     refine uS rfl fun K hK => ?_
     iterate 3 refine jm rfl rfl ?_
     refine ji rfl rfl (by omega) ?_
     refine jf rfl rfl (by omega) ?_
     refine jm rfl rfl ?_
     iterate 3 refine ut rfl rfl ?_
     refine jm rfl rfl ?_
     refine wN hK ?_; clear hK
     refine uF rfl rfl ?_
     refine WC.skip ?_
     (refine hK _ _ ?_; clear hK)
     refine WC.region rfl ?_
     refine jm rfl rfl ?_
     refine ji rfl rfl (by omega) ?_
     refine jm rfl rfl ?_
     refine WL.nil ?_
     exact ⟨3, (by repeat (first | with_reducible exact .refl _ _ | refine .set rfl ?_ | refine .put rfl ?_ | refine .sets rfl ?_ | refine .hav rfl ?_ | exact .refl _ _)), ⟨rfl, trivial⟩, .refl _, by omega, by omega⟩
   · refine WC.seq fun K hK => ?_
     refine uS rfl fun K hK => ?_
     iterate 2 refine jm rfl rfl ?_
     refine jn rfl rfl rfl ?_
     refine jt rfl rfl (by omega) ?_
     refine wN hK ?_; clear hK
     refine uT rfl rfl ?_
     refine WC.skip ?_
     (refine hK _ _ ?_; clear hK)
     refine WC.seq fun K hK => ?_
     refine WC.block ?_
     refine uS rfl fun K hK => ?_
     iterate 2 refine jm rfl rfl ?_
     refine wG rfl rfl (g_indexAddr (sz := 1) rfl (.mk rfl rfl) (.mk rfl rfl) rfl rfl (show _ = ((3 : Nat) : Int) from rfl) (by omega) (fun _ _ => rfl)) ?_
     refine jl rfl rfl rfl (rd_vec (.head _) rfl) ?_
     refine jm rfl rfl ?_
     refine wN hK ?_; clear hK
     refine uS rfl fun K hK => ?_
     iterate 3 refine jm rfl rfl ?_
     refine ji rfl rfl (by omega) ?_
     refine jf rfl rfl (by omega) ?_
     refine jm rfl rfl ?_
     iterate 3 refine ut rfl rfl ?_
     refine jm rfl rfl ?_
     refine wN hK ?_; clear hK
     refine uF rfl rfl ?_
     refine WC.skip ?_
     (refine hK _ _ ?_; clear hK)
     refine WC.region rfl ?_
     refine jm rfl rfl ?_
     refine ji rfl rfl (by omega) ?_
     refine jm rfl rfl ?_
     refine WL.nil ?_
     exact ⟨4, (by repeat (first | with_reducible exact .refl _ _ | refine .set rfl ?_ | refine .put rfl ?_ | refine .sets rfl ?_ | refine .hav rfl ?_ | exact .refl _ _)), ⟨rfl, trivial⟩, .refl _, by omega, by omega⟩
   · refine WC.seq fun K hK => ?_
     refine uS rfl fun K hK => ?_
     iterate 2 refine jm rfl rfl ?_
     refine jn rfl rfl rfl ?_
     refine jt rfl rfl (by omega) ?_
     refine wN hK ?_; clear hK
     refine uT rfl rfl ?_
     refine WC.skip ?_
     (refine hK _ _ ?_; clear hK)
     refine WC.seq fun K hK => ?_
     refine WC.block ?_
     refine uS rfl fun K hK => ?_
     iterate 2 refine jm rfl rfl ?_
     refine wG rfl rfl (g_indexAddr (sz := 1) rfl (.mk rfl rfl) (.mk rfl rfl) rfl rfl (show _ = ((4 : Nat) : Int) from rfl) (by omega) (fun _ _ => rfl)) ?_
     refine jl rfl rfl rfl (rd_vec (.head _) rfl) ?_
     refine jm rfl rfl ?_
     refine wN hK ?_; clear hK
     refine uS rfl fun K hK => ?_
     iterate 3 refine jm rfl rfl ?_
     refine ji rfl rfl (by omega) ?_
     refine jf rfl rfl (by omega) ?_
     refine jm rfl rfl ?_
     iterate 3 refine ut rfl rfl ?_
     refine jm rfl rfl ?_
     refine wN hK ?_; clear hK
     refine uF rfl rfl ?_
     refine WC.skip ?_
     (refine hK _ _ ?_; clear hK)
     refine WC.region rfl ?_
     refine jm rfl rfl ?_
     refine ji rfl rfl (by omega) ?_
     refine jm rfl rfl ?_
     refine WL.nil ?_
     exact ⟨5, (by repeat (first | with_reducible exact .refl _ _ | refine .set rfl ?_ | refine .put rfl ?_ | refine .sets rfl ?_ | refine .hav rfl ?_ | exact .refl _ _)), ⟨rfl, trivial⟩, .refl _, by omega, by omega⟩
   · refine WC.seq fun K hK => ?_
     refine uS rfl fun K hK => ?_
     iterate 2 refine jm rfl rfl ?_
     refine jn rfl rfl rfl ?_
     refine jf rfl rfl (by omega) ?_
     refine wN hK ?_; clear hK
     refine uF rfl rfl ?_
     refine WC.exit ?_
     (clear hK; refine hK _ _ ?_; clear hK)
     refine WC.seq fun K hK => ?_
     refine uS rfl fun K hK => ?_
     iterate 2 refine jm rfl rfl ?_
     refine WL.want rfl (WL1.callP rfl rfl rfl (.cons (.mk (v := .int _ _) rfl rfl) (.cons (.mk (v := .int _ _) rfl rfl) .nil)) (fun w hw => hct w) ?_)
     refine jf rfl rfl (by omega) ?_
     refine wN hK ?_; clear hK
     refine uF rfl rfl ?_
     refine WC.skip ?_
     (refine hK _ _ ?_; clear hK)
     refine uS rfl fun K hK => ?_
     iterate 2 refine jm rfl rfl ?_
     (refine WL.want rfl (WL1.callN rfl rfl rfl (.cons (.mk (v := .int _ _) rfl rfl) (.cons (.mk (v := .int _ _) rfl rfl) .nil)) (fun w hw => hcp w) ?_); rintro _ _ ⟨A, c, rfl, rfl⟩)
     refine WL.want rfl (WL1.storeAll rfl rfl (.mk rfl rfl) (.mk rfl rfl) rfl (all1 rfl) (by first | rfl | (simp [Blk.len]; done)) (.tail (.head)) ?_)
     refine jm rfl rfl ?_
     refine wN hK ?_; clear hK
     refine WC.ret ?_
     exact ⟨_, .cell rfl rfl rfl rfl (by repeat constructor) (.tmp rfl rfl .nil), fun w' hw' => ⟨_, _, rfl, hw'.sub (List.nil_sublist _), A, c, rfl, rfl⟩⟩
theorem rchoose_arg (v k : Nat) (w : World) (h : v < k) (h4 : 4 ≤ k) (h16 : k ≤ 16) :
   Calls Tryz.prog 55 #[iv v, iv k] w fun e w' => e = .returned (.tuple #[.agg #[iv 0, .slice none 0 0], iv 1]) ∧ Below w.heap.size w w' := by
 refine calls_wcG (args := [iv v, iv k]) [.cell 4 61, .tmp 5] [] Tryz.func55 rfl Tryz.ntmps55 rfl rfl (H.refl _) ?_
 refine uS rfl fun K hK => ?_
 refine WL.want rfl (WL1.alloc rfl rfl rfl rfl (fun b4 => ?_))
 refine jm rfl rfl ?_
 refine wN hK ?_; clear hK
 refine WC.seq fun K hK => ?_
 refine uS rfl fun K hK => ?_
 refine jm rfl rfl ?_
 refine jf rfl rfl (by omega) ?_
 refine jm rfl rfl ?_
 refine qm rfl rfl ?_
 refine qf rfl rfl (by omega) ?_
 iterate 2 refine jm rfl rfl ?_
 iterate 2 refine qm rfl rfl ?_
 refine qt rfl rfl (by omega) ?_
 iterate 2 refine jm rfl rfl ?_
 iterate 2 refine ut rfl rfl ?_
 refine jm rfl rfl ?_
 refine wN hK ?_; clear hK
 refine uT rfl rfl ?_
 refine uS rfl fun K hK => ?_
 refine wG rfl rfl (g_build (cs := [_, _]) rfl rfl rfl rfl .nil rfl rfl rfl) ?_
 refine WL.want rfl (WL1.storeAll rfl rfl (.mk rfl rfl) (.mk rfl rfl) rfl (all1 rfl) (by first | rfl | (simp [Blk.len]; done)) (.head) ?_)
 refine jm rfl rfl ?_
 refine wN hK ?_; clear hK
 refine WC.ret ?_
 exact ⟨_, .cell rfl rfl rfl rfl (by repeat constructor) (.tmp rfl rfl .nil), fun w' hw' => ⟨rfl, hw'.1⟩⟩
theorem prime3_e (w : World) : Calls Tryz.prog 179 #[iv 3] w fun e w' => e = .returned (.tuple #[iv 3, iv 1]) ∧ Below w.heap.size w w' := by
 refine calls_wc (args := [iv 3]) [2, 3] [] Tryz.func179 rfl Tryz.ntmps179 rfl rfl rfl rfl (H.refl _) ?_
 refine uS rfl fun K hK => ?_
 iterate 2 refine jm rfl rfl ?_
 refine wN hK ?_; clear hK
 refine WC.seq fun K hK => ?_
 refine uS rfl fun K hK => ?_
 refine jm rfl rfl ?_
 refine wN hK ?_; clear hK
 refine WC.block ?_
 refine WC.seq fun K hK => ?_
 refine uS rfl fun K hK => ?_
 refine jf rfl rfl (by omega) ?_
 refine jm rfl rfl ?_
 refine wN hK ?_; clear hK
 refine uF rfl rfl ?_
 refine uS rfl fun K hK => ?_
 refine jt rfl rfl (by omega) ?_
 refine jm rfl rfl ?_
 refine wN hK ?_; clear hK
 refine uT rfl rfl ?_
 refine WC.skip ?_
 (refine hK _ _ ?_; clear hK)
 refine uT rfl rfl ?_
 refine uS rfl fun K hK => ?_
 iterate 3 refine jm rfl rfl ?_
 refine wN hK ?_; clear hK
 refine WC.ret ?_
 exact fun w' hw' => ⟨rfl, hw'.1⟩
def dg (a : Nat) : Nat → List Value
 | 0 => []
 | _ + 1 => [iv (a % 3 : Nat)]
def dr (a : Nat) : Nat → Int
 | 0 => a
 | _ + 1 => (a : Int) / 3
theorem digits3_n (a : Nat) (w : World) (ha : a ≤ 1000) : Calls Tryz.prog 180 #[iv a, iv 3, iv 1] w fun e w' => ∃ v M, e = .returned v ∧ H w M w' ∧ ∃ D c, v = .slice D 1 c ∧ M = [vec D 1 c 3 1 [iv (a % 3 : Nat)]] := by
 have hrem : (a : Int).tmod 3 = ((a % 3 : Nat) : Int) := by rw [Int.tmod_eq_emod_of_nonneg (by omega)]; omega
 refine calls_wc (args := [iv a, iv 3, iv 1]) [6] [] Tryz.func180 rfl Tryz.ntmps180 rfl rfl rfl rfl (H.refl _) ?_
 refine uS rfl fun K hK => ?_
 refine jm rfl rfl ?_
 refine wN hK ?_; clear hK
 refine uS rfl fun K hK => ?_
 refine jm rfl rfl ?_
 refine wN hK ?_; clear hK
 refine WC.seq fun K hK => ?_
 refine uS rfl fun K hK => ?_
 refine jm rfl rfl ?_
 refine wN hK ?_; clear hK
 refine WC.block ?_
 refine WC.nilvec 3 1 ?_
 refine WC.loopI2 (8388481) (fun (i : Nat) (D : Option Addr × Nat) => [(8, iv i), (7, .slice D.1 i D.2), (0, iv (dr a i))]) (fun i D => vec D.1 i D.2 3 1 (dg a i) :: []) (fun i _ => i ≤ 1) (fun i _ => 1 - i) 0 (none, 0) ⟨rfl, rfl, rfl, trivial⟩ (Imp.refl _) (by omega) ?_
 rintro i ⟨D, c⟩ U hi
 dsimp only
 obtain rfl | rfl : i = 0 ∨ i = 1 := by omega
 · have hdr : dr a 0 = (a : Int) := rfl
   rw [hdr]
   refine WC.seq fun K hK => ?_
   refine uS rfl fun K hK => ?_
   iterate 2 refine jm rfl rfl ?_
   refine jt rfl rfl (by omega) ?_
   refine wN hK ?_; clear hK
   refine uT rfl rfl ?_
   refine WC.skip ?_
   (refine hK _ _ ?_; clear hK)
   refine WC.seq fun K hK => ?_
   refine WC.block ?_
   refine uS rfl fun K hK => ?_
   iterate 3 refine jm rfl rfl ?_
   refine wG rfl rfl (g_rem rfl (.mk rfl rfl) (.mk rfl rfl) (by omega) hrem) ?_
   refine WL.want rfl (WL1.lit (cs := [_]) elI rfl rfl rfl (.cons (.mk (v := .int _ _) rfl rfl) .nil) rfl (by first | (simp [Value.cells]; done) | fail) rfl rfl (fun b18 => ?_))
   refine WL.want rfl (WL1.append elI rfl rfl (.mk rfl rfl) (.mk rfl rfl) (.tail (.head)) (fun w hw => Sl.of_vec hw (.head _)) (all1 rfl) (by unfold maxLen; omega) (by omega) (fun A19 c19 => ?_))
   refine jm rfl rfl ?_
   refine wN hK ?_; clear hK
   refine WC.region rfl ?_
   iterate 2 refine jm rfl rfl ?_
   refine wG rfl rfl (g_quo rfl (.mk rfl rfl) (.mk rfl rfl) (by omega) (IntWalk.i64_quo _ _ (by omega))) ?_
   refine jm rfl rfl ?_
   refine wN hK ?_; clear hK
   refine WC.region rfl ?_
   refine jm rfl rfl ?_
   refine ji rfl rfl (by omega) ?_
   refine jm rfl rfl ?_
   refine WL.nil ?_
   refine ⟨1, (A19, c19), (by repeat (first | with_reducible exact .refl _ _ | refine .set rfl ?_ | refine .put rfl ?_ | refine .sets rfl ?_ | refine .hav rfl ?_ | exact .refl _ _)), ⟨rfl, rfl, rfl, trivial⟩, ?_, by omega, by omega⟩
   exact Imp.sub (.cons_cons _ (List.nil_sublist _))
 · refine WC.seq fun K hK => ?_
   refine uS rfl fun K hK => ?_
   iterate 2 refine jm rfl rfl ?_
   refine jf rfl rfl (by omega) ?_
   refine wN hK ?_; clear hK
   refine uF rfl rfl ?_
   refine WC.exit ?_
   (clear hK; refine hK _ _ ?_; clear hK)
   refine uS rfl fun K hK => ?_
   iterate 2 refine jm rfl rfl ?_
   refine wN hK ?_; clear hK
   refine WC.ret ?_
   exact fun w' hw' => ⟨_, _, rfl, hw', D, c, rfl, rfl⟩
def nr (x : Int) : Nat → Int
 | 0 => x
 | _ + 1 => 0
theorem number1_e (v : Value) (x : Int) (w : World) (hx : -1000 ≤ x ∧ x ≤ 1000) (hv : Sl w 1 v 1 [iv x]) : Calls Tryz.prog 181 #[v, iv 3] w fun e w' => e = .returned (iv x) ∧ Below w.heap.size w w' := by
 obtain ⟨A, c, rfl, hc, hm, hs⟩ := hv.open_
 refine calls_wc (args := [.slice A 1 c, iv 3]) [4] [] Tryz.func181 rfl Tryz.ntmps181 rfl rfl rfl rfl (H.refl _) ?_
 refine uS rfl fun K hK => ?_
 refine jm rfl rfl ?_
 refine wN hK ?_; clear hK
 refine uS rfl fun K hK => ?_
 refine jm rfl rfl ?_
 refine wN hK ?_; clear hK
 refine WC.seq fun K hK => ?_
 refine uS rfl fun K hK => ?_
 refine jm rfl rfl ?_
 refine jn rfl rfl rfl ?_
 refine ji rfl rfl (by omega) ?_
 refine jm rfl rfl ?_
 refine wN hK ?_; clear hK
 refine WC.block ?_
 refine WC.loop (4193376) (fun i : Nat => [(6, iv ((i : Int) - 1)), (5, iv (nr x i))]) (fun _ => []) (fun i => i ≤ 1) (fun i => i) 1 ⟨rfl, rfl, trivial⟩ (.refl _) (by omega) ?_
 intro i U hi
 obtain rfl | rfl : i = 0 ∨ i = 1 := by omega
 · refine WC.seq fun K hK => ?_
   refine uS rfl fun K hK => ?_
   refine jm rfl rfl ?_
   refine jf rfl rfl (by omega) ?_
   refine wN hK ?_; clear hK
   refine uF rfl rfl ?_
   refine WC.exit ?_
   (clear hK; refine hK _ _ ?_; clear hK)
   refine uS rfl fun K hK => ?_
   iterate 2 refine jm rfl rfl ?_
   refine wN hK ?_; clear hK
   refine WC.ret ?_
   exact fun w' hw' => ⟨rfl, hw'.1⟩
 · have hnr : nr x 1 = 0 := rfl
   rw [hnr]
   have hg : ([iv x] : List Value)[((1 : Nat) : Int) - 1 |>.toNat]? = some (iv x) := rfl
   refine WC.seq fun K hK => ?_
   refine uS rfl fun K hK => ?_
   refine jm rfl rfl ?_
   refine jt rfl rfl (by omega) ?_
   refine wN hK ?_; clear hK
   refine uT rfl rfl ?_
   refine WC.skip ?_
   (refine hK _ _ ?_; clear hK)
   refine WC.seq fun K hK => ?_
   refine WC.block ?_
   refine WC.region rfl ?_
   iterate 2 refine jm rfl rfl ?_
   refine ji rfl rfl (by omega) ?_
   iterate 2 refine jm rfl rfl ?_
   refine wG rfl rfl (g_indexAddr (sz := 1) rfl (.mk rfl rfl) (.mk rfl rfl) rfl rfl (show _ = ((0 : Nat) : Int) from rfl) (by omega) (fun _ _ => sl_some hs (by omega))) ?_
   refine jl rfl rfl rfl (rd_sl hs (rfl : ([iv x] : List Value)[_]? = some (iv x))) ?_
   refine ji rfl rfl (by omega) ?_
   refine jm rfl rfl ?_
   refine wN hK ?_; clear hK
   refine WC.region rfl ?_
   refine jm rfl rfl ?_
   refine ji rfl rfl (by omega) ?_
   refine jm rfl rfl ?_
   refine WL.nil ?_
   exact ⟨0, (by repeat (first | with_reducible exact .refl _ _ | refine .set rfl ?_ | refine .put rfl ?_ | refine .sets rfl ?_ | refine .hav rfl ?_ | exact .refl _ _)), ⟨rfl, by show iv _ = iv _; congr 1 <;> (show _ = x; omega), trivial⟩, .refl _, by omega, by omega⟩
def ad (x z : Nat) : Nat → Int
 | 0 => x
 | _ + 1 => z
theorem radd3_e (a b : Nat) (w : World) (ha : a ≤ 1000) (hb : b ≤ 1000) : Calls Tryz.prog 149 #[iv 3, iv a, iv b] w fun e w' => e = .returned (iv ((a % 3 + b % 3) % 3 : Nat)) ∧ Below w.heap.size w w' := by
 have hrem : ((a % 3 : Nat) + (b % 3 : Nat) : Int).tmod 3 = (((a % 3 + b % 3) % 3 : Nat) : Int) := by rw [Int.tmod_eq_emod_of_nonneg (by omega)]; omega
 have h1 := fun w => digits3_n a w ha
 have h2 := fun w => digits3_n b w hb
 generalize ha3 : a % 3 = x at *
 generalize hb3 : b % 3 = y at *
 refine calls_wc (args := [iv 3, iv a, iv b]) [6] [] Tryz.func149 rfl Tryz.ntmps149 rfl rfl rfl rfl (H.refl _) ?_
 refine uS rfl fun K hK => ?_
 refine jm rfl rfl ?_
 refine wN hK ?_; clear hK
 refine uS rfl fun K hK => ?_
 refine jm rfl rfl ?_
 refine WL.want rfl (WL1.callP rfl rfl rfl (.cons (.mk (v := .int _ _) rfl rfl) .nil) (fun w hw => prime3_e w) ?_)
 iterate 5 refine jm rfl rfl ?_
 refine wN hK ?_; clear hK
 refine uS rfl fun K hK => ?_
 iterate 3 refine jm rfl rfl ?_
 (refine WL.want rfl (WL1.callN rfl rfl rfl (.cons (.mk (v := .int _ _) rfl rfl) (.cons (.mk (v := .int _ _) rfl rfl) (.cons (.mk (v := .int _ _) rfl rfl) .nil))) (fun w hw => h1 w) ?_); rintro _ _ ⟨D, c, rfl, rfl⟩)
 iterate 3 refine jm rfl rfl ?_
 (refine WL.want rfl (WL1.callN rfl rfl rfl (.cons (.mk (v := .int _ _) rfl rfl) (.cons (.mk (v := .int _ _) rfl rfl) (.cons (.mk (v := .int _ _) rfl rfl) .nil))) (fun w hw => h2 w) ?_); rintro _ _ ⟨D2, c2, rfl, rfl⟩)
 iterate 2 refine jm rfl rfl ?_
 refine wN hK ?_; clear hK
 refine WC.seq fun K hK => ?_
 refine uS rfl fun K hK => ?_
 refine jm rfl rfl ?_
 refine wN hK ?_; clear hK
 refine WC.block ?_
 have hx : x ≤ 2 := by omega
 have hy : y ≤ 2 := by omega
 obtain ⟨z, hz⟩ : ∃ z, z = (x + y) % 3 := ⟨_, rfl⟩
 rw [← hz] at hrem ⊢
 have hz2 : z ≤ 2 := by omega
 refine WC.loop (17592152492032) (fun i : Nat => [(11, iv i)]) (fun i => [vec D2 1 c2 3 1 [iv y], vec D 1 c 3 1 [iv (ad x z i)]]) (fun i => i ≤ 1) (fun i => 1 - i) 0 ⟨rfl, trivial⟩ (.refl _) (by omega) ?_
 intro i U hi
 obtain rfl | rfl : i = 0 ∨ i = 1 := by omega
 · have had : ad x z 0 = (x : Int) := rfl
   rw [had]
   refine WC.seq fun K hK => ?_
   refine uS rfl fun K hK => ?_
   iterate 2 refine jm rfl rfl ?_
   refine jt rfl rfl (by omega) ?_
   refine wN hK ?_; clear hK
   refine uT rfl rfl ?_
   refine WC.skip ?_
   (refine hK _ _ ?_; clear hK)
   refine WC.seq fun K hK => ?_
   refine WC.block ?_
   refine WC.untilL [14] rfl (by kernel_rfl) ?_
   refine uP 0 rfl (by decide +kernel) (.inr (iS (by repeat constructor))) rfl rfl ?_
   refine uP 1 rfl (by decide +kernel) (.inr (iS (by repeat constructor))) rfl rfl ?_
   refine uP 2 rfl (by decide +kernel) (.inr (iS (by repeat constructor))) rfl rfl ?_
   refine uP 3 rfl (by decide +kernel) (.inr (iS (by repeat constructor))) rfl rfl ?_
   refine uB 4 rfl (by decide +kernel) (iS (by repeat constructor)) rfl ⟨rfl, g_indexAddr (sz := 1) rfl (.mk rfl rfl) (.mk rfl rfl) rfl rfl (show _ = ((0 : Nat) : Int) from rfl) (by omega) (fun w hw => vec_some hw (.tail _ (.head _)) (by omega))⟩ ?_
   refine uB 5 rfl (by decide +kernel) (iS (by repeat constructor)) rfl (Gl rfl rfl (rd_vec (.tail _ (.head _)) (rfl : ([iv x] : List Value)[_]? = some (iv x)))) ?_
   refine uP 6 rfl (by decide +kernel) (.inr (iS (by repeat constructor))) rfl rfl ?_
   refine uP 7 rfl (by decide +kernel) (.inr (iS (by repeat constructor))) rfl rfl ?_
   refine uB 8 rfl (by decide +kernel) (iS (by repeat constructor)) rfl ⟨rfl, g_indexAddr (sz := 1) rfl (.mk rfl rfl) (.mk rfl rfl) rfl rfl (show _ = ((0 : Nat) : Int) from rfl) (by omega) (fun w hw => vec_some hw (.head _) (by omega))⟩ ?_
   refine uB 9 rfl (by decide +kernel) (iS (by repeat constructor)) rfl (Gl rfl rfl (rd_vec (.head _) (rfl : ([iv y] : List Value)[_]? = some (iv y)))) ?_
   refine uG 10 rfl (by decide +kernel) (.inr (iS (by repeat constructor))) rfl (Gi rfl (by omega)) ?_
   refine uP 11 rfl (by decide +kernel) (.inr (iS (by repeat constructor))) rfl rfl ?_
   refine uG 12 rfl (by decide +kernel) (.inr (iS (by repeat constructor))) rfl ⟨rfl, g_rem rfl (.mk rfl rfl) (.mk rfl rfl) (by omega) hrem⟩ ?_
   refine uB 13 rfl (by decide +kernel) (iS (by repeat constructor)) rfl ⟨rfl, g_indexAddr (sz := 1) rfl (.mk rfl rfl) (.mk rfl rfl) rfl rfl (show _ = ((0 : Nat) : Int) from rfl) (by omega) (fun w hw => vec_some hw (.tail _ (.head _)) (by omega))⟩ ?_
   refine WB.one 14 (by decide +kernel) rfl rfl ?_
   refine WL1.storeV1 rfl rfl (.mk rfl rfl) (.mk (v := .int _ _) rfl rfl) rfl rfl (by first | omega | (simp; done) | (simp; omega)) (.tail (.head)) ?_
   refine WL.nil ?_
   refine ⟨.inl (by decide +kernel), ?_⟩
   refine WB.done (by decide +kernel) ?_
   (refine hK _ _ ?_; clear hK)
   refine WC.region rfl ?_
   refine jm rfl rfl ?_
   refine ji rfl rfl (by omega) ?_
   refine jm rfl rfl ?_
   refine WL.nil ?_
   exact ⟨1, (by repeat (first | with_reducible exact .refl _ _ | refine .set rfl ?_ | refine .put rfl ?_ | refine .sets rfl ?_ | refine .hav rfl ?_ | exact .refl _ _)), ⟨rfl, trivial⟩, .refl _, by omega, by omega⟩
 · have had : ad x z 1 = (z : Int) := rfl
   rw [had]
   refine WC.seq fun K hK => ?_
   refine uS rfl fun K hK => ?_
   iterate 2 refine jm rfl rfl ?_
   refine jf rfl rfl (by omega) ?_
   refine wN hK ?_; clear hK
   refine uF rfl rfl ?_
   refine WC.exit ?_
   (clear hK; refine hK _ _ ?_; clear hK)
   refine uS rfl fun K hK => ?_
   iterate 2 refine jm rfl rfl ?_
   refine WL.want rfl (WL1.callP rfl rfl rfl (.cons (.mk (v := .slice _ _ _) rfl rfl) (.cons (.mk (v := .int _ _) rfl rfl) .nil)) (fun w hw => number1_e _ z w (by omega) (Sl.of_vec hw (.tail _ (.head _)))) ?_)
   refine jm rfl rfl ?_
   refine wN hK ?_; clear hK
   refine WC.ret ?_
   exact fun w' hw' => ⟨by rw [← hz]; rfl, hw'.1⟩
theorem rmul3_e (a b : Nat) (w : World) (ha : a ≤ 1000) (hb : b ≤ 1000) : Calls Tryz.prog 150 #[iv 3, iv a, iv b] w fun e w' => e = .returned (iv (a * b % 3 : Nat)) ∧ Below w.heap.size w w' := by
 have hp : a * b ≤ 1000 * 1000 := Nat.mul_le_mul ha hb
 have hmul : IntKind.i64.wrap ((a : Int) * b) = ((a * b : Nat) : Int) := by rw [← Int.natCast_mul]; exact IntWalk.i64_in _ (by omega)
 generalize a * b = z at *
 have hrem : (z : Int).tmod 3 = ((z % 3 : Nat) : Int) := by rw [Int.tmod_eq_emod_of_nonneg (by omega)]; omega
 refine calls_wc (args := [iv 3, iv a, iv b]) [6] [] Tryz.func150 rfl Tryz.ntmps150 rfl rfl rfl rfl (H.refl _) ?_
 refine uS rfl fun K hK => ?_
 refine jm rfl rfl ?_
 refine wN hK ?_; clear hK
 refine uS rfl fun K hK => ?_
 refine jm rfl rfl ?_
 refine WL.want rfl (WL1.callP rfl rfl rfl (.cons (.mk (v := .int _ _) rfl rfl) .nil) (fun w hw => prime3_e w) ?_)
 iterate 5 refine jm rfl rfl ?_
 refine wN hK ?_; clear hK
 refine WC.seq fun K hK => ?_
 refine uS rfl fun K hK => ?_
 refine jm rfl rfl ?_
 refine jt rfl rfl (by omega) ?_
 refine wN hK ?_; clear hK
 refine uT rfl rfl ?_
 refine uS rfl fun K hK => ?_
 iterate 2 refine jm rfl rfl ?_
 refine wG rfl rfl (g_mul rfl (.mk rfl rfl) (.mk rfl rfl) hmul) ?_
 refine jm rfl rfl ?_
 refine wG rfl rfl (g_rem rfl (.mk rfl rfl) (.mk rfl rfl) (by omega) hrem) ?_
 refine jm rfl rfl ?_
 refine wN hK ?_; clear hK
 refine WC.ret ?_
 exact fun w' hw' => ⟨rfl, hw'.1⟩
def okN (x y z : Nat) : Bool := Nat.beq x 1 || (Nat.beq x 0 && Nat.beq y 1) || (Nat.beq x 0 && Nat.beq y 0 && Nat.beq z 1)
def coL : Nat → List (List Nat)
 | 0 => []
 | n + 1 => if okN (n / 9) (n / 3 % 3) (n % 3) = true then coL n ++ [[n / 9, n / 3 % 3, n % 3]] else coL n
theorem coL_len : ∀ n, (coL n).length ≤ n
 | 0 => Nat.le_refl _
 | n + 1 => by
   have := coL_len n
   rw [coL]
   split
   · rw [List.length_append]; simp; omega
   · omega
theorem coL_step {x y z : Nat} (hy : y < 3) (hz : z < 3) : coL (9 * x + 3 * y + z + 1) = if okN x y z = true then coL (9 * x + 3 * y + z) ++ [[x, y, z]] else coL (9 * x + 3 * y + z) := by
 rw [coL, show (9 * x + 3 * y + z) / 9 = x from by omega, show (9 * x + 3 * y + z) / 3 % 3 = y from by omega, show (9 * x + 3 * y + z) % 3 = z from by omega]
def cc (l : List (List Nat)) : List Value := l.flatMap ldv
theorem cc_app (a b : List (List Nat)) : cc a ++ cc b = cc (a ++ b) := List.flatMap_append.symm
abbrev C3T : TypeId := 201
theorem elC3 : Elem Tryz.prog 222 C3T (.agg #[iv 0, iv 0, iv 0]) 3 24 := ⟨by kernel_rfl, by kernel_rfl, rfl, by decide⟩
set_option maxHeartbeats 2000000 in
theorem coords3_n (w : World) : Calls Tryz.prog 148 #[iv 3] w fun e w' => ∃ v M, e = .returned v ∧ H w M w' ∧ ∃ A c, v = .slice A (coL 27).length c ∧ M = [vec A (coL 27).length c C3T 3 (cc (coL 27))] := by
 refine calls_wc (args := [iv 3]) [2] [] Tryz.func148 rfl Tryz.ntmps148 rfl rfl rfl rfl (H.refl _) ?_
 refine uS rfl fun K hK => ?_
 refine jm rfl rfl ?_
 refine wN hK ?_; clear hK
 refine uS rfl fun K hK => ?_
 refine jm rfl rfl ?_
 refine wN hK ?_; clear hK
 refine WC.seq fun K hK => ?_
 refine uS rfl fun K hK => ?_
 refine jm rfl rfl ?_
 refine wN hK ?_; clear hK
 refine WC.block ?_
 refine WC.nilvec C3T 3 ?_
 refine WC.loopI2 (2251799813685240) (fun (x : Nat) (D : Option Addr × Nat) => [(4, iv x), (3, .slice D.1 (coL (9 * x)).length D.2)]) (fun x D => vec D.1 (coL (9 * x)).length D.2 C3T 3 (cc (coL (9 * x))) :: []) (fun x _ => x ≤ 3) (fun x _ => 3 - x) 0 (none, 0) ⟨rfl, rfl, trivial⟩ (Imp.refl _) (by omega) ?_
 rintro x ⟨A, c⟩ U hx
 dsimp only
 by_cases hx3 : x < 3
 · refine WC.seq fun K hK => ?_
   refine uS rfl fun K hK => ?_
   iterate 2 refine jm rfl rfl ?_
   refine jt rfl rfl (by omega) ?_
   refine wN hK ?_; clear hK
   refine uT rfl rfl ?_
   refine WC.skip ?_
   (refine hK _ _ ?_; clear hK)
   refine WC.seq fun K hK => ?_
   refine WC.block ?_
   refine uS rfl fun K hK => ?_
   refine jm rfl rfl ?_
   refine wN hK ?_; clear hK
   refine WC.block ?_
   refine WC.loopI2 (2251799813681256) (fun (y : Nat) (D : Option Addr × Nat) => [(5, iv y), (3, .slice D.1 (coL (9 * x + 3 * y)).length D.2)]) (fun y D => vec D.1 (coL (9 * x + 3 * y)).length D.2 C3T 3 (cc (coL (9 * x + 3 * y))) :: []) (fun y _ => y ≤ 3) (fun y _ => 3 - y) 0 (A, c) ⟨rfl, rfl, trivial⟩ (Imp.refl _) (by omega) ?_
   rintro y ⟨A, c⟩ U2 hy
   dsimp only
   by_cases hy3 : y < 3
   · refine WC.seq fun K hK => ?_
     refine uS rfl fun K hK => ?_
     iterate 2 refine jm rfl rfl ?_
     refine jt rfl rfl (by omega) ?_
     refine wN hK ?_; clear hK
     refine uT rfl rfl ?_
     refine WC.skip ?_
     (refine hK _ _ ?_; clear hK)
     refine WC.seq fun K hK => ?_
     refine WC.block ?_
     refine uS rfl fun K hK => ?_
     refine jm rfl rfl ?_
     refine wN hK ?_; clear hK
     refine WC.block ?_
     refine WC.loopI2 (2251799813554248) (fun (z : Nat) (D : Option Addr × Nat) => [(6, iv z), (3, .slice D.1 (coL (9 * x + 3 * y + z)).length D.2)]) (fun z D => vec D.1 (coL (9 * x + 3 * y + z)).length D.2 C3T 3 (cc (coL (9 * x + 3 * y + z))) :: []) (fun z _ => z ≤ 3) (fun z _ => 3 - z) 0 (A, c) ⟨rfl, rfl, trivial⟩ (Imp.refl _) (by omega) ?_
     rintro z ⟨A, c⟩ U3 hz
     dsimp only
     by_cases hz3 : z < 3
     · have hst := coL_step (x := x) hy3 hz3
       have hln := coL_len (9 * x + 3 * y + z)
       have hcc : cc (coL (9 * x + 3 * y + z)) ++ [iv x, iv y, iv z] = cc (coL (9 * x + 3 * y + z) ++ [[x, y, z]]) := cc_app _ [[x, y, z]]
       have hl1 : (coL (9 * x + 3 * y + z) ++ [[x, y, z]]).length = (coL (9 * x + 3 * y + z)).length + 1 := by rw [List.length_append]; rfl
       by_cases h1 : x = 1
       · have hb : okN x y z = true := by subst h1; rfl
         rw [if_pos hb] at hst
         refine WC.seq fun K hK => ?_
         refine uS rfl fun K hK => ?_
         iterate 2 refine jm rfl rfl ?_
         refine jt rfl rfl (by omega) ?_
         refine wN hK ?_; clear hK
         refine uT rfl rfl ?_
         refine WC.skip ?_
         (refine hK _ _ ?_; clear hK)
         refine WC.seq fun K hK => ?_
         refine WC.block ?_
         refine uS rfl fun K hK => ?_
         refine jm rfl rfl ?_
         refine jt rfl rfl (by omega) ?_
         refine jm rfl rfl ?_
         iterate 3 refine ut rfl rfl ?_
         refine WL.skipU rfl rfl rfl rfl rfl ?_
         refine WL.skipU rfl rfl rfl rfl rfl ?_
         refine ut rfl rfl ?_
         iterate 2 refine jm rfl rfl ?_
         iterate 3 refine ut rfl rfl ?_
         refine WL.skipU rfl rfl rfl rfl rfl ?_
         refine WL.skipU rfl rfl rfl rfl rfl ?_
         iterate 2 refine ut rfl rfl ?_
         refine WL.skipU rfl rfl rfl rfl rfl ?_
         refine WL.skipU rfl rfl rfl rfl rfl ?_
         refine ut rfl rfl ?_
         refine jm rfl rfl ?_
         refine wN hK ?_; clear hK
         refine uT rfl rfl ?_
         refine WC.region rfl ?_
         iterate 4 refine jm rfl rfl ?_
         refine wG rfl rfl (g_buildArr (cs := [_, _, _]) rfl rfl rfl rfl rfl (.cons (.mk (v := .int _ _) rfl rfl) (.cons (.mk (v := .int _ _) rfl rfl) (.cons (.mk (v := .int _ _) rfl rfl) .nil))) rfl rfl rfl) ?_
         refine WL.want rfl (WL1.lit (cs := [iv x, iv y, iv z]) elC3 rfl rfl rfl (.cons (.mk (v := .agg _) rfl rfl) .nil) rfl (by intro v hv; rw [List.mem_singleton] at hv; subst hv; rfl) rfl rfl (fun b49 => ?_))
         refine WL.want rfl (WL1.append elC3 rfl rfl (.mk rfl rfl) (.mk rfl rfl) (.tail (.head)) (fun w hw => Sl.of_vec hw (.head _)) (by intro u hu; simp only [List.mem_cons, List.not_mem_nil, or_false] at hu; rcases hu with rfl | rfl | rfl <;> rfl) (by unfold maxLen; omega) (by omega) (fun A50 c50 => ?_))
         refine jm rfl rfl ?_
         refine wN hK ?_; clear hK
         refine WC.region rfl ?_
         refine jm rfl rfl ?_
         refine ji rfl rfl (by omega) ?_
         refine jm rfl rfl ?_
         refine WL.nil ?_
         refine ⟨z + 1, (A50, c50), (by repeat (first | with_reducible exact .refl _ _ | refine .set rfl ?_ | refine .put rfl ?_ | refine .sets rfl ?_ | refine .hav rfl ?_ | exact .refl _ _)), ⟨rfl, by show Value.slice _ _ _ = Value.slice A50 (coL (9 * x + 3 * y + z + 1)).length c50; rw [hst, hl1], trivial⟩, ?_, by omega, by omega⟩
         show Imp _ (vec A50 (coL (9 * x + 3 * y + z + 1)).length c50 C3T 3 (cc (coL (9 * x + 3 * y + z + 1))) :: [])
         rw [hst, hl1, ← hcc]
         exact Imp.sub (.cons_cons _ (List.nil_sublist _))
       by_cases h2 : x = 2
       · have hb : okN x y z = false := by subst h2; rfl
         rw [if_neg (by rw [hb]; exact Bool.false_ne_true)] at hst
         refine WC.seq fun K hK => ?_
         refine uS rfl fun K hK => ?_
         iterate 2 refine jm rfl rfl ?_
         refine jt rfl rfl (by omega) ?_
         refine wN hK ?_; clear hK
         refine uT rfl rfl ?_
         refine WC.skip ?_
         (refine hK _ _ ?_; clear hK)
         refine WC.seq fun K hK => ?_
         refine WC.block ?_
         refine uS rfl fun K hK => ?_
         refine jm rfl rfl ?_
         refine jf rfl rfl (by omega) ?_
         refine jm rfl rfl ?_
         refine qm rfl rfl ?_
         refine qf rfl rfl (by omega) ?_
         refine qm rfl rfl ?_
         iterate 2 refine ut rfl rfl ?_
         refine qm rfl rfl ?_
         iterate 2 refine jm rfl rfl ?_
         refine qm rfl rfl ?_
         refine qf rfl rfl (by omega) ?_
         refine qm rfl rfl ?_
         iterate 2 refine ut rfl rfl ?_
         iterate 2 refine qm rfl rfl ?_
         iterate 2 refine ut rfl rfl ?_
         refine qm rfl rfl ?_
         refine jm rfl rfl ?_
         refine wN hK ?_; clear hK
         refine uF rfl rfl ?_
         refine WC.skip ?_
         (refine hK _ _ ?_; clear hK)
         refine WC.region rfl ?_
         refine jm rfl rfl ?_
         refine ji rfl rfl (by omega) ?_
         refine jm rfl rfl ?_
         refine WL.nil ?_
         refine ⟨z + 1, (A, c), (by repeat (first | with_reducible exact .refl _ _ | refine .set rfl ?_ | refine .put rfl ?_ | refine .sets rfl ?_ | refine .hav rfl ?_ | exact .refl _ _)), ⟨rfl, by show Value.slice _ _ _ = Value.slice A (coL (9 * x + 3 * y + z + 1)).length c; rw [hst], trivial⟩, ?_, by omega, by omega⟩
         show Imp _ (vec A (coL (9 * x + 3 * y + z + 1)).length c C3T 3 (cc (coL (9 * x + 3 * y + z + 1))) :: [])
         rw [hst]
         exact Imp.refl _
       have h0 : x = 0 := by omega
       by_cases g1 : y = 1
       · have hb : okN x y z = true := by subst h0; subst g1; rfl
         rw [if_pos hb] at hst
         refine WC.seq fun K hK => ?_
         refine uS rfl fun K hK => ?_
         iterate 2 refine jm rfl rfl ?_
         refine jt rfl rfl (by omega) ?_
         refine wN hK ?_; clear hK
         refine uT rfl rfl ?_
         refine WC.skip ?_
         (refine hK _ _ ?_; clear hK)
         refine WC.seq fun K hK => ?_
         refine WC.block ?_
         refine uS rfl fun K hK => ?_
         refine jm rfl rfl ?_
         refine jf rfl rfl (by omega) ?_
         refine jm rfl rfl ?_
         refine qm rfl rfl ?_
         refine qt rfl rfl (by omega) ?_
         iterate 2 refine qm rfl rfl ?_
         refine qt rfl rfl (by omega) ?_
         refine qm rfl rfl ?_
         iterate 2 refine jm rfl rfl ?_
         iterate 3 refine ut rfl rfl ?_
         refine WL.skipU rfl rfl rfl rfl rfl ?_
         refine WL.skipU rfl rfl rfl rfl rfl ?_
         iterate 2 refine ut rfl rfl ?_
         refine WL.skipU rfl rfl rfl rfl rfl ?_
         refine WL.skipU rfl rfl rfl rfl rfl ?_
         refine ut rfl rfl ?_
         refine jm rfl rfl ?_
         refine wN hK ?_; clear hK
         refine uT rfl rfl ?_
         refine WC.region rfl ?_
         iterate 4 refine jm rfl rfl ?_
         refine wG rfl rfl (g_buildArr (cs := [_, _, _]) rfl rfl rfl rfl rfl (.cons (.mk (v := .int _ _) rfl rfl) (.cons (.mk (v := .int _ _) rfl rfl) (.cons (.mk (v := .int _ _) rfl rfl) .nil))) rfl rfl rfl) ?_
         refine WL.want rfl (WL1.lit (cs := [iv x, iv y, iv z]) elC3 rfl rfl rfl (.cons (.mk (v := .agg _) rfl rfl) .nil) rfl (by intro v hv; rw [List.mem_singleton] at hv; subst hv; rfl) rfl rfl (fun b49 => ?_))
         refine WL.want rfl (WL1.append elC3 rfl rfl (.mk rfl rfl) (.mk rfl rfl) (.tail (.head)) (fun w hw => Sl.of_vec hw (.head _)) (by intro u hu; simp only [List.mem_cons, List.not_mem_nil, or_false] at hu; rcases hu with rfl | rfl | rfl <;> rfl) (by unfold maxLen; omega) (by omega) (fun A50 c50 => ?_))
         refine jm rfl rfl ?_
         refine wN hK ?_; clear hK
         refine WC.region rfl ?_
         refine jm rfl rfl ?_
         refine ji rfl rfl (by omega) ?_
         refine jm rfl rfl ?_
         refine WL.nil ?_
         refine ⟨z + 1, (A50, c50), (by repeat (first | with_reducible exact .refl _ _ | refine .set rfl ?_ | refine .put rfl ?_ | refine .sets rfl ?_ | refine .hav rfl ?_ | exact .refl _ _)), ⟨rfl, by show Value.slice _ _ _ = Value.slice A50 (coL (9 * x + 3 * y + z + 1)).length c50; rw [hst, hl1], trivial⟩, ?_, by omega, by omega⟩
         show Imp _ (vec A50 (coL (9 * x + 3 * y + z + 1)).length c50 C3T 3 (cc (coL (9 * x + 3 * y + z + 1))) :: [])
         rw [hst, hl1, ← hcc]
         exact Imp.sub (.cons_cons _ (List.nil_sublist _))
       by_cases g2 : y = 2
       · have hb : okN x y z = false := by subst h0; subst g2; rfl
         rw [if_neg (by rw [hb]; exact Bool.false_ne_true)] at hst
         refine WC.seq fun K hK => ?_
         refine uS rfl fun K hK => ?_
         iterate 2 refine jm rfl rfl ?_
         refine jt rfl rfl (by omega) ?_
         refine wN hK ?_; clear hK
         refine uT rfl rfl ?_
         refine WC.skip ?_
         (refine hK _ _ ?_; clear hK)
         refine WC.seq fun K hK => ?_
         refine WC.block ?_
         refine uS rfl fun K hK => ?_
         refine jm rfl rfl ?_
         refine jf rfl rfl (by omega) ?_
         refine jm rfl rfl ?_
         refine qm rfl rfl ?_
         refine qt rfl rfl (by omega) ?_
         iterate 2 refine qm rfl rfl ?_
         refine qf rfl rfl (by omega) ?_
         refine qm rfl rfl ?_
         iterate 2 refine jm rfl rfl ?_
         refine qm rfl rfl ?_
         refine qt rfl rfl (by omega) ?_
         iterate 2 refine qm rfl rfl ?_
         refine qf rfl rfl (by omega) ?_
         iterate 2 refine qm rfl rfl ?_
         iterate 2 refine ut rfl rfl ?_
         refine qm rfl rfl ?_
         refine jm rfl rfl ?_
         refine wN hK ?_; clear hK
         refine uF rfl rfl ?_
         refine WC.skip ?_
         (refine hK _ _ ?_; clear hK)
         refine WC.region rfl ?_
         refine jm rfl rfl ?_
         refine ji rfl rfl (by omega) ?_
         refine jm rfl rfl ?_
         refine WL.nil ?_
         refine ⟨z + 1, (A, c), (by repeat (first | with_reducible exact .refl _ _ | refine .set rfl ?_ | refine .put rfl ?_ | refine .sets rfl ?_ | refine .hav rfl ?_ | exact .refl _ _)), ⟨rfl, by show Value.slice _ _ _ = Value.slice A (coL (9 * x + 3 * y + z + 1)).length c; rw [hst], trivial⟩, ?_, by omega, by omega⟩
         show Imp _ (vec A (coL (9 * x + 3 * y + z + 1)).length c C3T 3 (cc (coL (9 * x + 3 * y + z + 1))) :: [])
         rw [hst]
         exact Imp.refl _
       have g0 : y = 0 := by omega
       by_cases k1 : z = 1
       · have hb : okN x y z = true := by subst h0; subst g0; subst k1; rfl
         rw [if_pos hb] at hst
         refine WC.seq fun K hK => ?_
         refine uS rfl fun K hK => ?_
         iterate 2 refine jm rfl rfl ?_
         refine jt rfl rfl (by omega) ?_
         refine wN hK ?_; clear hK
         refine uT rfl rfl ?_
         refine WC.skip ?_
         (refine hK _ _ ?_; clear hK)
         refine WC.seq fun K hK => ?_
         refine WC.block ?_
         refine uS rfl fun K hK => ?_
         refine jm rfl rfl ?_
         refine jf rfl rfl (by omega) ?_
         refine jm rfl rfl ?_
         refine qm rfl rfl ?_
         refine qt rfl rfl (by omega) ?_
         iterate 2 refine qm rfl rfl ?_
         refine qf rfl rfl (by omega) ?_
         refine qm rfl rfl ?_
         iterate 2 refine jm rfl rfl ?_
         refine qm rfl rfl ?_
         refine qt rfl rfl (by omega) ?_
         iterate 2 refine qm rfl rfl ?_
         refine qt rfl rfl (by omega) ?_
         iterate 3 refine qm rfl rfl ?_
         refine qt rfl rfl (by omega) ?_
         refine qm rfl rfl ?_
         refine jm rfl rfl ?_
         refine wN hK ?_; clear hK
         refine uT rfl rfl ?_
         refine WC.region rfl ?_
         iterate 4 refine jm rfl rfl ?_
         refine wG rfl rfl (g_buildArr (cs := [_, _, _]) rfl rfl rfl rfl rfl (.cons (.mk (v := .int _ _) rfl rfl) (.cons (.mk (v := .int _ _) rfl rfl) (.cons (.mk (v := .int _ _) rfl rfl) .nil))) rfl rfl rfl) ?_
         refine WL.want rfl (WL1.lit (cs := [iv x, iv y, iv z]) elC3 rfl rfl rfl (.cons (.mk (v := .agg _) rfl rfl) .nil) rfl (by intro v hv; rw [List.mem_singleton] at hv; subst hv; rfl) rfl rfl (fun b49 => ?_))
         refine WL.want rfl (WL1.append elC3 rfl rfl (.mk rfl rfl) (.mk rfl rfl) (.tail (.head)) (fun w hw => Sl.of_vec hw (.head _)) (by intro u hu; simp only [List.mem_cons, List.not_mem_nil, or_false] at hu; rcases hu with rfl | rfl | rfl <;> rfl) (by unfold maxLen; omega) (by omega) (fun A50 c50 => ?_))
         refine jm rfl rfl ?_
         refine wN hK ?_; clear hK
         refine WC.region rfl ?_
         refine jm rfl rfl ?_
         refine ji rfl rfl (by omega) ?_
         refine jm rfl rfl ?_
         refine WL.nil ?_
         refine ⟨z + 1, (A50, c50), (by repeat (first | with_reducible exact .refl _ _ | refine .set rfl ?_ | refine .put rfl ?_ | refine .sets rfl ?_ | refine .hav rfl ?_ | exact .refl _ _)), ⟨rfl, by show Value.slice _ _ _ = Value.slice A50 (coL (9 * x + 3 * y + z + 1)).length c50; rw [hst, hl1], trivial⟩, ?_, by omega, by omega⟩
         show Imp _ (vec A50 (coL (9 * x + 3 * y + z + 1)).length c50 C3T 3 (cc (coL (9 * x + 3 * y + z + 1))) :: [])
         rw [hst, hl1, ← hcc]
         exact Imp.sub (.cons_cons _ (List.nil_sublist _))
       · have hb : okN x y z = false := by subst h0; subst g0; rcases (show z = 0 ∨ z = 2 by omega) with rfl | rfl <;> rfl
         rw [if_neg (by rw [hb]; exact Bool.false_ne_true)] at hst
         refine WC.seq fun K hK => ?_
         refine uS rfl fun K hK => ?_
         iterate 2 refine jm rfl rfl ?_
         refine jt rfl rfl (by omega) ?_
         refine wN hK ?_; clear hK
         refine uT rfl rfl ?_
         refine WC.skip ?_
         (refine hK _ _ ?_; clear hK)
         refine WC.seq fun K hK => ?_
         refine WC.block ?_
         refine uS rfl fun K hK => ?_
         refine jm rfl rfl ?_
         refine jf rfl rfl (by omega) ?_
         refine jm rfl rfl ?_
         refine qm rfl rfl ?_
         refine qt rfl rfl (by omega) ?_
         iterate 2 refine qm rfl rfl ?_
         refine qf rfl rfl (by omega) ?_
         refine qm rfl rfl ?_
         iterate 2 refine jm rfl rfl ?_
         refine qm rfl rfl ?_
         refine qt rfl rfl (by omega) ?_
         iterate 2 refine qm rfl rfl ?_
         refine qt rfl rfl (by omega) ?_
         iterate 3 refine qm rfl rfl ?_
         refine qf rfl rfl (by omega) ?_
         refine qm rfl rfl ?_
         refine jm rfl rfl ?_
         refine wN hK ?_; clear hK
         refine uF rfl rfl ?_
         refine WC.skip ?_
         (refine hK _ _ ?_; clear hK)
         refine WC.region rfl ?_
         refine jm rfl rfl ?_
         refine ji rfl rfl (by omega) ?_
         refine jm rfl rfl ?_
         refine WL.nil ?_
         refine ⟨z + 1, (A, c), (by repeat (first | with_reducible exact .refl _ _ | refine .set rfl ?_ | refine .put rfl ?_ | refine .sets rfl ?_ | refine .hav rfl ?_ | exact .refl _ _)), ⟨rfl, by show Value.slice _ _ _ = Value.slice A (coL (9 * x + 3 * y + z + 1)).length c; rw [hst], trivial⟩, ?_, by omega, by omega⟩
         show Imp _ (vec A (coL (9 * x + 3 * y + z + 1)).length c C3T 3 (cc (coL (9 * x + 3 * y + z + 1))) :: [])
         rw [hst]
         exact Imp.refl _
     · obtain rfl : z = 3 := by omega
       refine WC.seq fun K hK => ?_
       refine uS rfl fun K hK => ?_
       iterate 2 refine jm rfl rfl ?_
       refine jf rfl rfl (by omega) ?_
       refine wN hK ?_; clear hK
       refine uF rfl rfl ?_
       refine WC.exit ?_
       (clear hK; refine hK _ _ ?_; clear hK)
       refine WC.region rfl ?_
       refine jm rfl rfl ?_
       refine ji rfl rfl (by omega) ?_
       refine jm rfl rfl ?_
       refine WL.nil ?_
       exact ⟨y + 1, (A, c), (by repeat (first | with_reducible exact .refl _ _ | refine .set rfl ?_ | refine .put rfl ?_ | refine .sets rfl ?_ | refine .hav rfl ?_ | exact .refl _ _)), ⟨rfl, by rw [show 9 * x + 3 * (y + 1) = 9 * x + 3 * y + 3 from by omega]; rfl, trivial⟩, by rw [show 9 * x + 3 * (y + 1) = 9 * x + 3 * y + 3 from by omega]; exact Imp.refl _, by omega, by omega⟩
   · obtain rfl : y = 3 := by omega
     refine WC.seq fun K hK => ?_
     refine uS rfl fun K hK => ?_
     iterate 2 refine jm rfl rfl ?_
     refine jf rfl rfl (by omega) ?_
     refine wN hK ?_; clear hK
     refine uF rfl rfl ?_
     refine WC.exit ?_
     (clear hK; refine hK _ _ ?_; clear hK)
     refine WC.region rfl ?_
     refine jm rfl rfl ?_
     refine ji rfl rfl (by omega) ?_
     refine jm rfl rfl ?_
     refine WL.nil ?_
     exact ⟨x + 1, (A, c), (by repeat (first | with_reducible exact .refl _ _ | refine .set rfl ?_ | refine .put rfl ?_ | refine .sets rfl ?_ | refine .hav rfl ?_ | exact .refl _ _)), ⟨rfl, by rw [show 9 * (x + 1) = 9 * x + 3 * 3 from by omega]; rfl, trivial⟩, by rw [show 9 * (x + 1) = 9 * x + 3 * 3 from by omega]; exact Imp.refl _, by omega, by omega⟩
 · obtain rfl : x = 3 := by omega
   refine WC.seq fun K hK => ?_
   refine uS rfl fun K hK => ?_
   iterate 2 refine jm rfl rfl ?_
   refine jf rfl rfl (by omega) ?_
   refine wN hK ?_; clear hK
   refine uF rfl rfl ?_
   refine WC.exit ?_
   (clear hK; refine hK _ _ ?_; clear hK)
   refine uS rfl fun K hK => ?_
   iterate 2 refine jm rfl rfl ?_
   refine wN hK ?_; clear hK
   refine WC.ret ?_
   exact fun w' hw' => ⟨_, _, rfl, hw', A, c, rfl, rfl⟩
theorem cc_get : ∀ {L : List (List Nat)}, (∀ r ∈ L, r.length = 3) → ∀ {i n : Nat}, i < L.length → n < 3 → (cc L)[i * 3 + n]? = some (iv (nth (nth L i) n : Nat))
 | r :: L, h, 0, n, _, hn => by
   have hr := h r (by simp)
   show (ldv r ++ cc L)[0 * 3 + n]? = some (iv (nth r n : Nat))
   rw [Nat.zero_mul, Nat.zero_add, List.getElem?_append_left (by rw [ldv_len, hr]; exact hn)]
   have := ldv_get (ld := r) (k := n) (by omega)
   rwa [Nat.mul_one] at this
 | r :: L, h, i + 1, n, hi, hn => by
   have hr := h r (by simp)
   have ih := cc_get (L := L) (fun r hr => h r (by simp [hr])) (i := i) (n := n) (by simpa using hi) hn
   show (ldv r ++ cc L)[(i + 1) * 3 + n]? = some (iv (nth (nth L i) n : Nat))
   rw [List.getElem?_append_right (by rw [ldv_len, hr]; omega), ldv_len, hr, show (i + 1) * 3 + n - 3 = i * 3 + n from by omega]
   exact ih
theorem co_rows : ∀ r ∈ coL 27, r.length = 3 := fun r hr => of_decide_eq_true (List.all_eq_true.1 (show ((coL 27).all fun r => decide (r.length = 3)) = true by decide +kernel) r hr)
theorem co_len : (coL 27).length = 13 := by decide +kernel
theorem co_le {i n : Nat} (hi : i < 13) (hn : n < 3) : nth (nth (coL 27) i) n ≤ 2 := by
 have h : ((List.range 13).all fun i => (List.range 3).all fun n => Nat.ble (nth (nth (coL 27) i) n) 2) = true := by decide +kernel
 exact Nat.le_of_ble_eq_true (List.all_eq_true.1 (List.all_eq_true.1 h i (List.mem_range.2 hi)) n (List.mem_range.2 hn))
theorem cc_len {L : List (List Nat)} (h : ∀ r ∈ L, r.length = 3) : (cc L).length = L.length * 3 := by
 induction L with
 | nil => rfl
 | cons r L ih =>
   have hr := h r (by simp)
   show (ldv r ++ cc L).length = _
   rw [List.length_append, ldv_len, hr, ih fun r hr => h r (by simp [hr]), List.length_cons]; omega
set_option maxHeartbeats 2000000 in
theorem rproj3_n (w : World) : Calls Tryz.prog 101 #[iv 3] w fun e w' => ∃ u M, e = .returned u ∧ H w M w' ∧ ∃ A c, u = .agg #[iv 13, .slice A 13 c] ∧ M = [] := by
 have hco := fun w => coords3_n w
 have hge : ∀ {i n : Nat}, i < 13 → n < 3 → (cc (coL 27))[i * 3 + n]? = some (iv (nth (nth (coL 27) i) n : Nat)) := fun hi hn => cc_get co_rows (by rw [co_len]; exact hi) hn
 have hll := cc_len co_rows
 have hle : ∀ {i n : Nat}, i < 13 → n < 3 → nth (nth (coL 27) i) n ≤ 2 := co_le
 rw [co_len] at hll
 simp only [co_len] at hco
 generalize coL 27 = L at *
 refine calls_wcG (args := [iv 3]) [.cell 2 61] [] Tryz.func101 rfl Tryz.ntmps101 rfl rfl (H.refl _) ?_
 refine uS rfl fun K hK => ?_
 refine WL.want rfl (WL1.alloc rfl rfl rfl rfl (fun b2 => ?_))
 refine wN hK ?_; clear hK
 refine uS rfl fun K hK => ?_
 refine jm rfl rfl ?_
 (refine WL.want rfl (WL1.callN rfl rfl rfl (.cons (.mk (v := .int _ _) rfl rfl) .nil) (fun w hw => hco w) ?_); rintro _ _ ⟨Al, cl, rfl, rfl⟩)
 refine jm rfl rfl ?_
 refine wN hK ?_; clear hK
 refine uS rfl fun K hK => ?_
 refine jm rfl rfl ?_
 refine jn rfl rfl rfl ?_
 refine wG rfl rfl (g_build (cs := [_, _]) rfl rfl rfl rfl (.cons (.mk (v := .int _ _) rfl rfl) .nil) rfl rfl rfl) ?_
 refine WL.want rfl (WL1.alloc rfl rfl rfl rfl (fun b4 => ?_))
 refine WL.want rfl (WL1.storeAll rfl rfl (.mk rfl rfl) (.mk rfl rfl) rfl (all1 rfl) (by first | rfl | (simp [Blk.len]; done)) (.head) ?_)
 refine wN hK ?_; clear hK
 refine WC.seq fun K hK => ?_
 refine uS rfl fun K hK => ?_
 refine jm rfl rfl ?_
 refine wN hK ?_; clear hK
 refine WC.block ?_
 refine WC.nilvec 29 1 ?_
 refine WC.loopI3 (1152921504606815200) (fun (i : Nat) (D : Option Addr × Nat) (gv : List Value) => [(5, iv i)]) (fun i D gv => pt b4 DT [iv 13, .slice D.1 gv.length D.2] :: vec D.1 gv.length D.2 29 1 gv :: vec Al 13 cl C3T 3 (cc L) :: pt b2 DT [iv 0, .slice none 0 0] :: []) (fun i _ gv => i ≤ 13 ∧ gv.length = i ∧ ∀ u ∈ gv, u.oneCell' = true) (fun i _ _ => 13 - i) 0 (none, 0) [] ⟨rfl, trivial⟩ (Imp.pick (by repeat constructor) (Imp.pick (by repeat constructor) (Imp.pick (by repeat constructor) (Imp.pick (by repeat constructor) (Imp.nil _))))) ⟨by omega, rfl, by simp⟩ ?_
 rintro i ⟨A, c⟩ gv U ⟨hi, hgl, hone⟩
 dsimp only
 by_cases hi3 : i < 13
 · refine WC.seq fun K hK => ?_
   refine uS rfl fun K hK => ?_
   iterate 2 refine jm rfl rfl ?_
   refine jn rfl rfl rfl ?_
   refine jt rfl rfl (by omega) ?_
   refine wN hK ?_; clear hK
   refine uT rfl rfl ?_
   refine WC.skip ?_
   (refine hK _ _ ?_; clear hK)
   refine WC.seq fun K hK => ?_
   refine WC.block ?_
   refine uS rfl fun K hK => ?_
   refine jm rfl rfl ?_
   refine wN hK ?_; clear hK
   refine WC.seq fun K hK => ?_
   refine uS rfl fun K hK => ?_
   refine jm rfl rfl ?_
   refine wN hK ?_; clear hK
   refine WC.block ?_
   refine WC.nilvec 3 1 ?_
   refine WC.loopI3 (18014398507385792) (fun (k : Nat) (F : Option Addr × Nat) (lv : List Value) => [(7, iv k), (6, .slice F.1 lv.length F.2)]) (fun k F lv => vec F.1 lv.length F.2 3 1 lv :: pt b4 DT [iv 13, .slice A gv.length c] :: vec A gv.length c 29 1 gv :: vec Al 13 cl C3T 3 (cc L) :: pt b2 DT [iv 0, .slice none 0 0] :: []) (fun k _ lv => k ≤ 13 ∧ lv.length ≤ k ∧ ∀ u ∈ lv, u.oneCell' = true) (fun k _ _ => 13 - k) 0 (none, 0) [] ⟨rfl, rfl, trivial⟩ (Imp.refl _) ⟨by omega, by simp, by simp⟩ ?_
   rintro k ⟨F, fc⟩ lv U2 ⟨hk, hlv, hlone⟩
   dsimp only
   by_cases hk3 : k < 13
   · refine WC.seq fun K hK => ?_
     refine uS rfl fun K hK => ?_
     iterate 2 refine jm rfl rfl ?_
     refine jn rfl rfl rfl ?_
     refine jt rfl rfl (by omega) ?_
     refine wN hK ?_; clear hK
     refine uT rfl rfl ?_
     refine WC.skip ?_
     (refine hK _ _ ?_; clear hK)
     refine WC.seq fun K hK => ?_
     refine WC.block ?_
     refine uS rfl fun K hK => ?_
     refine jm rfl rfl ?_
     refine wN hK ?_; clear hK
     refine WC.seq fun K hK => ?_
     refine uS rfl fun K hK => ?_
     refine jm rfl rfl ?_
     refine wN hK ?_; clear hK
     refine WC.block ?_
     refine WC.loopI2 (281474842493696) (fun (n : Nat) (s : Nat) => [(9, iv n), (8, iv s)]) (fun _ _ => vec F lv.length fc 3 1 lv :: pt b4 DT [iv 13, .slice A gv.length c] :: vec A gv.length c 29 1 gv :: vec Al 13 cl C3T 3 (cc L) :: pt b2 DT [iv 0, .slice none 0 0] :: []) (fun n s => n ≤ 3 ∧ s ≤ 2) (fun n _ => 3 - n) 0 0 ⟨rfl, rfl, trivial⟩ (Imp.refl _) ⟨by omega, by omega⟩ ?_
     rintro n s U3 ⟨hn, hs⟩
     by_cases hn3 : n < 3
     · have ga := hge hi3 hn3
       have gb := hge hk3 hn3
       have la := hle hi3 hn3
       have lb := hle hk3 hn3
       generalize nth (nth L i) n = a at *
       generalize nth (nth L k) n = b at *
       have hp : a * b % 3 ≤ 2 := by omega
       have hmu := fun w => rmul3_e a b w (by omega) (by omega)
       generalize a * b % 3 = z at *
       have had := fun w => radd3_e s z w (by omega) (by omega)
       have hz2 : (s % 3 + z % 3) % 3 ≤ 2 := by omega
       generalize (s % 3 + z % 3) % 3 = y at *
       have hix : ∀ i n : Nat, i * 3 + n * 1 = i * 3 + n := fun i n => by omega
       rw [← hix] at ga gb
       refine WC.seq fun K hK => ?_
       refine uS rfl fun K hK => ?_
       refine jm rfl rfl ?_
       refine jt rfl rfl (by omega) ?_
       refine wN hK ?_; clear hK
       refine uT rfl rfl ?_
       refine WC.skip ?_
       (refine hK _ _ ?_; clear hK)
       refine WC.seq fun K hK => ?_
       refine WC.block ?_
       refine WC.held [vec Al 13 cl C3T 3 (cc L)] rfl (by kernel_rfl) ?_
       refine uH 0 rfl (by decide +kernel) (iS (by repeat constructor)) rfl (Gm rfl) ?_
       refine uH 1 rfl (by decide +kernel) (iS (by repeat constructor)) rfl (Gm rfl) ?_
       refine uH 2 rfl (by decide +kernel) (iS (by repeat constructor)) rfl (Gm rfl) ?_
       refine uH 3 rfl (by decide +kernel) (iS (by repeat constructor)) rfl (Gm rfl) ?_
       refine uH 4 rfl (by decide +kernel) (iS (by repeat constructor)) rfl (Gm rfl) ?_
       refine uH 5 rfl (by decide +kernel) (iS (by repeat constructor)) rfl (Gm rfl) ?_
       refine uH 6 rfl (by decide +kernel) (iS (by repeat constructor)) rfl ⟨rfl, g_indexAddr (sz := 3) rfl (.mk rfl rfl) (.mk rfl rfl) rfl rfl rfl (by omega) (fun w hw => vec_some hw (.head _) (by omega))⟩ ?_
       refine uH 7 rfl (by decide +kernel) (iS (by repeat constructor)) rfl ⟨rfl, g_indexAddrA (sz := 1) rfl (.mk rfl rfl) (.mk rfl rfl) rfl rfl rfl (by omega) (fun w hw => vec_some hw (.head _) (by omega))⟩ ?_
       refine uH 8 rfl (by decide +kernel) (iS (by repeat constructor)) rfl (Gl rfl rfl (rd_vec (by repeat constructor) ga)) ?_
       refine uH 9 rfl (by decide +kernel) (iS (by repeat constructor)) rfl (Gm rfl) ?_
       refine uH 10 rfl (by decide +kernel) (iS (by repeat constructor)) rfl (Gm rfl) ?_
       refine uH 11 rfl (by decide +kernel) (iS (by repeat constructor)) rfl (Gm rfl) ?_
       refine uH 12 rfl (by decide +kernel) (iS (by repeat constructor)) rfl ⟨rfl, g_indexAddr (sz := 3) rfl (.mk rfl rfl) (.mk rfl rfl) rfl rfl rfl (by omega) (fun w hw => vec_some hw (.head _) (by omega))⟩ ?_
       refine uH 13 rfl (by decide +kernel) (iS (by repeat constructor)) rfl ⟨rfl, g_indexAddrA (sz := 1) rfl (.mk rfl rfl) (.mk rfl rfl) rfl rfl rfl (by omega) (fun w hw => vec_some hw (.head _) (by omega))⟩ ?_
       refine uH 14 rfl (by decide +kernel) (iS (by repeat constructor)) rfl (Gl rfl rfl (rd_vec (by repeat constructor) gb)) ?_
       refine WH.one 15 (by decide +kernel) rfl rfl ?_
       refine WL1.callP rfl rfl rfl (.cons (.mk (v := .int _ _) rfl rfl) (.cons (.mk (v := .int _ _) rfl rfl) (.cons (.mk (v := .int _ _) rfl rfl) .nil))) (fun w hw => hmu w) ?_
       refine WL.nil ?_
       refine ⟨(iS (by repeat constructor)), ?_⟩
       refine WH.one 16 (by decide +kernel) rfl rfl ?_
       refine WL1.callP rfl rfl rfl (.cons (.mk (v := .int _ _) rfl rfl) (.cons (.mk (v := .int _ _) rfl rfl) (.cons (.mk (v := .int _ _) rfl rfl) .nil))) (fun w hw => had w) ?_
       refine WL.nil ?_
       refine ⟨(iS (by repeat constructor)), ?_⟩
       refine uH 17 rfl (by decide +kernel) (iS (by repeat constructor)) rfl (Gm rfl) ?_
       refine WH.done (by decide +kernel) ?_
       (refine hK _ _ ?_; clear hK)
       refine WC.region rfl ?_
       refine jm rfl rfl ?_
       refine ji rfl rfl (by omega) ?_
       refine jm rfl rfl ?_
       refine WL.nil ?_
       exact ⟨n + 1, y, (by repeat (first | with_reducible exact .refl _ _ | refine .set rfl ?_ | refine .put rfl ?_ | refine .sets rfl ?_ | refine .hav rfl ?_ | exact .refl _ _)), ⟨rfl, rfl, trivial⟩, Imp.refl _, ⟨by omega, by omega⟩, by omega⟩
     · by_cases h0 : s = 0
       · refine WC.seq fun K hK => ?_
         refine uS rfl fun K hK => ?_
         refine jm rfl rfl ?_
         refine jf rfl rfl (by omega) ?_
         refine wN hK ?_; clear hK
         refine uF rfl rfl ?_
         refine WC.exit ?_
         (clear hK; refine hK _ _ ?_; clear hK)
         refine uS rfl fun K hK => ?_
         refine jm rfl rfl ?_
         refine jt rfl rfl (by omega) ?_
         refine wN hK ?_; clear hK
         refine uT rfl rfl ?_
         refine WC.region rfl ?_
         iterate 2 refine jm rfl rfl ?_
         refine WL.want rfl (WL1.lit (cs := [_]) elI rfl rfl rfl (.cons (.mk (v := .int _ _) rfl rfl) .nil) rfl (by first | (simp [Value.cells]; done) | fail) rfl rfl (fun b52 => ?_))
         refine WL.want rfl (WL1.append elI rfl rfl (.mk rfl rfl) (.mk rfl rfl) (.tail (.head)) (fun w hw => Sl.of_vec hw (.head _)) (all1 rfl) (by unfold maxLen; omega) (by omega) (fun A53 c53 => ?_))
         refine jm rfl rfl ?_
         refine wN hK ?_; clear hK
         refine WC.region rfl ?_
         refine jm rfl rfl ?_
         refine ji rfl rfl (by omega) ?_
         refine jm rfl rfl ?_
         refine WL.nil ?_
         refine ⟨k + 1, (A53, c53), lv ++ [iv k], (by repeat (first | with_reducible exact .refl _ _ | refine .set rfl ?_ | refine .put rfl ?_ | refine .sets rfl ?_ | refine .hav rfl ?_ | exact .refl _ _)), ⟨rfl, by rw [List.length_append]; rfl, trivial⟩, ?_, ⟨by omega, by rw [List.length_append]; simp; omega, fun u hu => ?_⟩, by omega⟩
         · dsimp only
           rw [List.length_append]
           exact Imp.pick (by repeat constructor) (Imp.pick (by repeat constructor) (Imp.pick (by repeat constructor) (Imp.pick (by repeat constructor) (Imp.pick (by repeat constructor) (Imp.nil _)))))
         · rcases List.mem_append.1 hu with hu | hu
           · exact hlone u hu
           · rw [List.mem_singleton] at hu; rw [hu]; rfl
       · refine WC.seq fun K hK => ?_
         refine uS rfl fun K hK => ?_
         refine jm rfl rfl ?_
         refine jf rfl rfl (by omega) ?_
         refine wN hK ?_; clear hK
         refine uF rfl rfl ?_
         refine WC.exit ?_
         (clear hK; refine hK _ _ ?_; clear hK)
         refine uS rfl fun K hK => ?_
         refine jm rfl rfl ?_
         refine jf rfl rfl (by omega) ?_
         refine wN hK ?_; clear hK
         refine uF rfl rfl ?_
         refine WC.skip ?_
         (refine hK _ _ ?_; clear hK)
         refine WC.region rfl ?_
         refine jm rfl rfl ?_
         refine ji rfl rfl (by omega) ?_
         refine jm rfl rfl ?_
         refine WL.nil ?_
         exact ⟨k + 1, (F, fc), lv, (by repeat (first | with_reducible exact .refl _ _ | refine .set rfl ?_ | refine .put rfl ?_ | refine .sets rfl ?_ | refine .hav rfl ?_ | exact .refl _ _)), ⟨rfl, rfl, trivial⟩, Imp.refl _, ⟨by omega, by omega, hlone⟩, by omega⟩
   · obtain rfl : k = 13 := by omega
     refine WC.seq fun K hK => ?_
     refine uS rfl fun K hK => ?_
     iterate 2 refine jm rfl rfl ?_
     refine jn rfl rfl rfl ?_
     refine jf rfl rfl (by omega) ?_
     refine wN hK ?_; clear hK
     refine uF rfl rfl ?_
     refine WC.exit ?_
     (clear hK; refine hK _ _ ?_; clear hK)
     refine WC.region rfl ?_
     refine ja 1 rfl rfl rfl rfl ?_
     refine jl rfl rfl rfl (rd_pt (.tail _ (.head _)) rfl) ?_
     refine jm rfl rfl ?_
     refine WL.want rfl (WL1.lit (cs := [_]) elRI rfl rfl rfl (.cons (.mk (v := .slice _ _ _) rfl rfl) .nil) rfl (by first | (simp [Value.cells]; done) | fail) rfl rfl (fun b57 => ?_))
     refine WL.want rfl (WL1.append elRI rfl rfl (.mk rfl rfl) (.mk rfl rfl) (.tail (.tail (.tail (.head)))) (fun w hw => Sl.of_vec hw (.head _)) (all1 rfl) (by unfold maxLen; omega) (by omega) (fun A58 c58 => ?_))
     refine ja 1 rfl rfl rfl rfl ?_
     refine WL.want rfl (WL1.store1 rfl rfl (.mk rfl rfl) (.mk (v := .slice _ _ _) rfl rfl) rfl rfl (Nat.le_of_ble_eq_true rfl) (.tail (.tail (.tail (.head)))) ?_)
     refine wN hK ?_; clear hK
     refine WC.region rfl ?_
     refine jm rfl rfl ?_
     refine ji rfl rfl (by omega) ?_
     refine jm rfl rfl ?_
     refine WL.nil ?_
     refine ⟨i + 1, (A58, c58), gv ++ [Value.slice F lv.length fc], (by repeat (first | with_reducible exact .refl _ _ | refine .set rfl ?_ | refine .put rfl ?_ | refine .sets rfl ?_ | refine .hav rfl ?_ | exact .refl _ _)), ⟨rfl, trivial⟩, ?_, ⟨by omega, by rw [List.length_append, hgl]; rfl, fun u hu => ?_⟩, by omega⟩
     · dsimp only
       rw [List.length_append]
       exact Imp.pick (by repeat constructor) (Imp.pick (by repeat constructor) (Imp.pick (by repeat constructor) (Imp.pick (by repeat constructor) (Imp.nil _))))
     · rcases List.mem_append.1 hu with hu | hu
       · exact hone u hu
       · rw [List.mem_singleton] at hu; rw [hu]; rfl
 · obtain rfl : i = 13 := by omega
   rw [hgl]
   refine WC.seq fun K hK => ?_
   refine uS rfl fun K hK => ?_
   iterate 2 refine jm rfl rfl ?_
   refine jn rfl rfl rfl ?_
   refine jf rfl rfl (by omega) ?_
   refine wN hK ?_; clear hK
   refine uF rfl rfl ?_
   refine WC.exit ?_
   (clear hK; refine hK _ _ ?_; clear hK)
   refine uS rfl fun K hK => ?_
   refine wG rfl rfl (g_loadA rfl (.mk rfl rfl) rfl rfl (rdr_pt (.head _) (fun j u h => by simpa using h))) ?_
   refine WL.want rfl (WL1.storeAll rfl rfl (.mk rfl rfl) (.mk rfl rfl) rfl (all1 rfl) (by first | rfl | (simp [Blk.len]; done)) (.tail (.tail (.tail (.head)))) ?_)
   refine wN hK ?_; clear hK
   refine WC.ret ?_
   exact ⟨_, .cell rfl rfl rfl rfl (by repeat constructor) .nil, fun w' hw' => ⟨_, _, rfl, hw'.sub (List.nil_sublist _), A, c, rfl, rfl⟩⟩
set_option maxHeartbeats 2000000 in
theorem rchoose_13 (w : World) : Calls Tryz.prog 55 #[iv 13, iv 4] w fun e w' => ∃ u M, e = .returned u ∧ H w M w' ∧ ∃ A c, u = .tuple #[.agg #[iv 13, .slice A 13 c], iv 0] ∧ M = [] := by
 refine calls_wcG (args := [iv 13, iv 4]) [.cell 4 61, .tmp 5] [] Tryz.func55 rfl Tryz.ntmps55 rfl rfl (H.refl _) ?_
 refine uS rfl fun K hK => ?_
 refine WL.want rfl (WL1.alloc rfl rfl rfl rfl (fun b4 => ?_))
 refine jm rfl rfl ?_
 refine wN hK ?_; clear hK
 refine WC.seq fun K hK => ?_
 refine uS rfl fun K hK => ?_
 refine jm rfl rfl ?_
 refine jf rfl rfl (by omega) ?_
 refine jm rfl rfl ?_
 refine qm rfl rfl ?_
 refine qf rfl rfl (by omega) ?_
 iterate 2 refine jm rfl rfl ?_
 iterate 2 refine qm rfl rfl ?_
 refine qf rfl rfl (by omega) ?_
 iterate 2 refine jm rfl rfl ?_
 refine qm rfl rfl ?_
 refine qf rfl rfl (by omega) ?_
 refine jm rfl rfl ?_
 refine wN hK ?_; clear hK
 refine uF rfl rfl ?_
 refine WC.skip ?_
 (refine hK _ _ ?_; clear hK)
 refine uS rfl fun K hK => ?_
 refine WL.want rfl (WL1.lit (cs := [_, _, _, _, _]) elI rfl rfl rfl (.cons (.mk (v := .int _ _) rfl rfl) (.cons (.mk (v := .int _ _) rfl rfl) (.cons (.mk (v := .int _ _) rfl rfl) (.cons (.mk (v := .int _ _) rfl rfl) (.cons (.mk (v := .int _ _) rfl rfl) .nil))))) rfl (by first | (simp [Value.cells]; done) | fail) rfl rfl (fun b27 => ?_))
 refine jm rfl rfl ?_
 refine wN hK ?_; clear hK
 refine WC.seq fun K hK => ?_
 refine uS rfl fun K hK => ?_
 refine jm rfl rfl ?_
 refine wN hK ?_; clear hK
 refine WC.block ?_
 refine WC.loop (18014398241046944) (fun i : Nat => [(7, iv i)]) (fun _ => [vec (some ⟨b27, 0, none⟩) 5 5 3 1 [iv 2, iv 3, iv 4, iv 5, iv 7], pt b4 DT [iv 0, .slice none 0 0]]) (fun i => i ≤ 1) (fun i => 5 - i) 0 ⟨rfl, trivial⟩ (.refl _) (by omega) ?_
 intro i U hi
 obtain rfl | rfl : i = 0 ∨ i = 1 := by omega
 · refine WC.seq fun K hK => ?_
   refine uS rfl fun K hK => ?_
   iterate 2 refine jm rfl rfl ?_
   refine jn rfl rfl rfl ?_
   refine jt rfl rfl (by omega) ?_
   refine wN hK ?_; clear hK
   refine uT rfl rfl ?_
   refine WC.skip ?_
   (refine hK _ _ ?_; clear hK)
   refine WC.seq fun K hK => ?_
   refine WC.block ?_
   refine uS rfl fun K hK => ?_
   iterate 2 refine jm rfl rfl ?_
   refine wG rfl rfl (g_indexAddr (sz := 1) rfl (.mk rfl rfl) (.mk rfl rfl) rfl rfl (show _ = ((0 : Nat) : Int) from rfl) (by omega) (fun _ _ => rfl)) ?_
   refine jl rfl rfl rfl (rd_vec (.head _) rfl) ?_
   refine jm rfl rfl ?_
   refine wN hK ?_; clear hK
   refine uS rfl fun K hK => ?_
   iterate 3 refine jm rfl rfl ?_
   refine ji rfl rfl (by omega) ?_
   refine jm rfl rfl ?_
   iterate 2 refine ji rfl rfl (by omega) ?_
   refine jf rfl rfl (by omega) ?_
   refine jm rfl rfl ?_
   iterate 4 refine ut rfl rfl ?_
   refine jm rfl rfl ?_
   refine wN hK ?_; clear hK
   refine uF rfl rfl ?_
   refine WC.skip ?_
   (refine hK _ _ ?_; clear hK)
   refine WC.region rfl ?_
   refine jm rfl rfl ?_
   refine ji rfl rfl (by omega) ?_
   refine jm rfl rfl ?_
   refine WL.nil ?_
   exact ⟨1, (by repeat (first | with_reducible exact .refl _ _ | refine .set rfl ?_ | refine .put rfl ?_ | refine .sets rfl ?_ | refine .hav rfl ?_ | exact .refl _ _)), ⟨rfl, trivial⟩, .refl _, by omega, by omega⟩
 · refine WC.seq fun K hK => ?_
   refine uS rfl fun K hK => ?_
   iterate 2 refine jm rfl rfl ?_
   refine jn rfl rfl rfl ?_
   refine jt rfl rfl (by omega) ?_
   refine wN hK ?_; clear hK
   refine uT rfl rfl ?_
   refine WC.skip ?_
   (refine hK _ _ ?_; clear hK)
   refine WC.seq fun K hK => ?_
   refine WC.block ?_
   refine uS rfl fun K hK => ?_
   iterate 2 refine jm rfl rfl ?_
   refine wG rfl rfl (g_indexAddr (sz := 1) rfl (.mk rfl rfl) (.mk rfl rfl) rfl rfl (show _ = ((1 : Nat) : Int) from rfl) (by omega) (fun _ _ => rfl)) ?_
   refine jl rfl rfl rfl (rd_vec (.head _) rfl) ?_
   refine jm rfl rfl ?_
   refine wN hK ?_; clear hK
   refine uS rfl fun K hK => ?_
   iterate 3 refine jm rfl rfl ?_
   refine ji rfl rfl (by omega) ?_
   refine jm rfl rfl ?_
   iterate 2 refine ji rfl rfl (by omega) ?_
   refine jt rfl rfl (by omega) ?_
   refine jm rfl rfl ?_
   iterate 2 refine qm rfl rfl ?_
   refine qi rfl rfl (by omega) ?_
   refine qt rfl rfl (by omega) ?_
   refine jm rfl rfl ?_
   refine wN hK ?_; clear hK
   refine uT rfl rfl ?_
   refine uS rfl fun K hK => ?_
   refine jm rfl rfl ?_
   (refine WL.want rfl (WL1.callN rfl rfl rfl (.cons (.mk (v := .int _ _) rfl rfl) .nil) (fun w hw => rproj3_n w) ?_); rintro _ _ ⟨A, c, rfl, rfl⟩)
   refine WL.want rfl (WL1.storeAll rfl rfl (.mk rfl rfl) (.mk rfl rfl) rfl (all1 rfl) (by first | rfl | (simp [Blk.len]; done)) (.tail (.head)) ?_)
   refine jm rfl rfl ?_
   refine wN hK ?_; clear hK
   refine WC.ret ?_
   exact ⟨_, .cell rfl rfl rfl rfl (by repeat constructor) (.tmp rfl rfl .nil), fun w' hw' => ⟨_, _, rfl, hw'.sub (List.nil_sublist _), A, c, rfl, rfl⟩⟩
abbrev backI (b : Nat) : Value := .func (.func 219) #[] #[bpv b]
theorem backI_n (A : Option Addr) (n c : Nat) (w : World) : Calls Tryz.prog 214 #[.slice A n c] w fun e w' => ∃ v M, e = .returned v ∧ H w M w' ∧ ∃ b, v = backI b ∧ M = [pt b 29 [.slice A n c]] := by
 refine calls_wc (args := [.slice A n c]) [2] [] Tryz.func214 rfl Tryz.ntmps214 rfl rfl rfl rfl (H.refl _) ?_
 refine uS rfl fun K hK => ?_
 refine WL.want rfl (WL1.box rfl rfl (.mk (v := .slice _ _ _) rfl rfl) rfl (fun b1 => ?_))
 refine wG rfl rfl (g_assign rfl (.mk rfl (by conv => lhs; whnf))) ?_
 refine wN hK ?_; clear hK
 refine uS rfl fun K hK => ?_
 refine wG rfl rfl (g_makeFunc rfl (.cons (.mk (v := cellPtr _ _) rfl rfl) .nil)) ?_
 refine jm rfl rfl ?_
 refine wN hK ?_; clear hK
 refine WC.ret ?_
 exact fun w' hw' => ⟨_, _, rfl, hw', b1, rfl, rfl⟩
theorem rd_of {C : World → Prop} {sz m m' c k : Nat} {A : Option Addr} {xs : List Value} {u : Value} (h : ∀ w, C w → Sl w sz (.slice A m c) m' xs) (hu : xs[k]? = some u) : RdC C A k u := fun w hw => rd_sl (L := []) (h w hw) hu w (H.refl w)
set_option maxHeartbeats 1000000 in
theorem backI_it {w0 w : World} {A : Option Addr} {c b r : Nat} {ds : List Int} {Ls : Nat → List Asrt} (hm : c ≤ maxLen) (hn : ds.length ≤ c) (hs : ∀ m w, H w0 (Ls m) w → Sl w 1 (.slice A ds.length c) ds.length (ivs ds)) (hp : ∀ i, pt b 29 [.slice A ds.length c] ∈ Ls i)
   (hy : ∀ m, m < ds.length → ∀ w, H w0 (Ls (m + 1)) w → YieldAt Fence.wide 0 Tryz.prog r #[iv m, iv (nth ds m)] w fun e w' => e = .returned (.bool true) ∧ H w0 (Ls m) w')
   (hw : H w0 (Ls ds.length) w) : Calls Tryz.prog 219 #[.func (.yield r) #[] #[], bpv b] w fun e w' => e = .returned (.tuple #[]) ∧ H w0 (Ls 0) w' := by
 unfold maxLen at hm
 refine calls_wc (args := [.func (.yield r) #[] #[], bpv b]) [] (Ls ds.length) Tryz.func219 rfl Tryz.ntmps219 rfl rfl rfl rfl hw ?_
 refine uS rfl fun K hK => ?_
 refine jl rfl rfl rfl (rd_pt (hp _) rfl) ?_
 refine jn rfl rfl rfl ?_
 refine ji rfl rfl (by omega) ?_
 refine jm rfl rfl ?_
 refine wN hK ?_; clear hK
 refine WC.block ?_
 refine WC.loop2 (524168) (fun (m : Nat) (z : Int) => [(3, iv z)]) (fun m _ => Ls m) (fun m z => m ≤ ds.length ∧ z = (m : Int) - 1) (fun m _ => m) ds.length ((ds.length : Int) - 1) ⟨rfl, trivial⟩ (.refl _) ⟨by omega, rfl⟩ ?_
 rintro m z U ⟨hml, hz⟩
 cases m with
 | zero =>
   refine WC.seq fun K hK => ?_
   refine uS rfl fun K hK => ?_
   refine jm rfl rfl ?_
   refine jf rfl rfl (by omega) ?_
   refine wN hK ?_; clear hK
   refine uF rfl rfl ?_
   refine WC.exit ?_
   exact fun w' hw' => ⟨rfl, hw'⟩
 | succ m =>
   obtain rfl : z = (m : Int) := by omega
   refine WC.seq fun K hK => ?_
   refine uS rfl fun K hK => ?_
   refine jm rfl rfl ?_
   refine jt rfl rfl (by omega) ?_
   refine wN hK ?_; clear hK
   refine uT rfl rfl ?_
   refine WC.skip ?_
   (refine hK _ _ ?_; clear hK)
   refine WC.seq fun K hK => ?_
   refine WC.block ?_
   refine WC.seq fun K hK => ?_
   refine WC.regionY 6 (r := r) rfl rfl rfl rfl ?_
   iterate 2 refine jm rfl rfl ?_
   refine jl rfl rfl rfl (rd_pt (hp _) rfl) ?_
   refine jm rfl rfl ?_
   refine wG rfl rfl (g_indexAddr (sz := 1) (j := m) rfl (.mk rfl rfl) (.mk rfl rfl) rfl rfl rfl (by omega) (fun w hw => sl_some (hs _ w hw) (by omega))) ?_
   refine jl rfl rfl rfl (rd_of (hs _) (ivs_get (by omega))) ?_
   refine WL.nil ?_
   refine ⟨[iv m, iv (nth ds m)], .mk rfl rfl, .cons (.mk rfl rfl) (.cons (.mk rfl rfl) .nil), fun w' hw' => YieldAt.mono (hy m (by omega) w' hw') ?_⟩
   rintro e w2 ⟨rfl, hH⟩
   refine ⟨_, _, rfl, hH, ?_⟩
   refine jm rfl rfl ?_
   refine wN hK ?_; clear hK
   refine uF rfl rfl ?_
   refine WC.skip ?_
   (refine hK _ _ ?_; clear hK)
   refine WC.region rfl ?_
   refine jm rfl rfl ?_
   refine ji rfl rfl (by omega) ?_
   refine jm rfl rfl ?_
   refine WL.nil ?_
   exact ⟨m, (m : Int) - 1, (by repeat (first | with_reducible exact .refl _ _ | refine .set rfl ?_ | refine .put rfl ?_ | refine .sets rfl ?_ | refine .hav rfl ?_ | exact .refl _ _)), ⟨rfl, trivial⟩, .refl _, ⟨by omega, rfl⟩, by omega⟩
abbrev shV : List Value := [iv 3, iv 3, .slice none 0 0]
abbrev SHT : TypeId := 245
def elI0 (x : Int) : Nat → Int
 | 0 => x
 | _ + 1 => 0
set_option maxHeartbeats 1000000 in
theorem element_e (v : Value) (x : Int) (w : World) (hx : -1000 ≤ x ∧ x ≤ 1000) (hv : Sl w 1 v 1 [iv x]) : Calls Tryz.prog 201 #[.agg shV.toArray, v] w fun e w' => e = .returned (iv x) ∧ Below w.heap.size w w' := by
 obtain ⟨A, c, rfl, hc, hm, hs⟩ := hv.open_
 refine calls_wcM (args := [.agg shV.toArray, .slice A 1 c]) [4] [] Tryz.func201 rfl Tryz.ntmps201 rfl rfl rfl rfl (H.refl w) ?_
 refine (show WG _ _ w _ _ _ _ from ?_) w (H.refl w)
 (refine WG.seq ?_; intro K hK)
 refine WC.region rfl ?_
 refine WL.want rfl (WL1.box rfl rfl (.mk (v := .agg _) rfl rfl) rfl (fun b2 => ?_))
 refine jm rfl rfl ?_
 refine wN hK ?_; clear hK
 (refine WG.seq ?_; intro K hK)
 refine WC.region rfl ?_
 refine WL.want rfl (WL1.alloc rfl rfl rfl rfl (fun b5 => ?_))
 refine WL.want rfl (WL1.store1 rfl rfl (.mk rfl rfl) (.mk (v := .int _ _) rfl rfl) rfl rfl (Nat.le_of_ble_eq_true rfl) (.head) ?_)
 refine wN hK ?_; clear hK
 refine WG.seqG ?_
 (refine WG.seq ?_; intro K hK)
 refine WC.region rfl ?_
 refine jm rfl rfl ?_
 (refine WL.want rfl (WL1.callN rfl rfl rfl (.cons (.mk (v := .slice _ _ _) rfl rfl) .nil) (fun w hw => backI_n A 1 c w) ?_); rintro _ _ ⟨bs, rfl, rfl⟩)
 refine wN hK ?_; clear hK
 refine WG.block ?_
 intro w1 hw1
 refine wpF_range_it (ps := [10, 11]) 1 (fun m => [pt bs 29 [.slice A 1 c], pt b5 3 [iv (elI0 x m)], pt b2 SHT shV]) (fun m => [iv m, iv (nth [x] m)]) rfl ?_ rfl hw1 ?_ (fun _ => rfl)
   (fun r D X hy w' hw' => backI_it (ds := [x]) (Ls := fun m => X :: dfr D :: [pt bs 29 [.slice A 1 c], pt b5 3 [iv (elI0 x m)], pt b2 SHT shV]) hm hc (fun m w hw => hs.below hw.1) (fun i => .tail _ (.tail _ (.head _))) hy hw') ?_ ?_
 · exact .mk rfl rfl
 · exact .refl _
 · intro rec r D m hlm
   obtain rfl : m = 0 := by omega
   have e0 : elI0 x 0 = x := rfl
   have e1 : elI0 x 1 = 0 := rfl
   have e2 : nth [x] 0 = x := rfl
   rw [e0, e1, e2]
   refine WC.region rfl ?_
   refine jm rfl rfl ?_
   refine WL.nil ?_
   refine ⟨_, .head, ?_⟩
   refine WC.block ?_
   refine WC.region rfl ?_
   refine jl rfl rfl rfl (rd_pt (.tail _ (.tail _ (.tail _ (.head _)))) rfl) ?_
   refine ja 1 rfl rfl rfl rfl ?_
   refine jl rfl rfl rfl (rd_pt (.tail _ (.tail _ (.tail _ (.tail _ (.head _))))) rfl) ?_
   refine ji rfl rfl (by omega) ?_
   refine jm rfl rfl ?_
   refine ji rfl rfl (by omega) ?_
   refine WL.want rfl (WL1.store1 rfl rfl (.mk rfl rfl) (.mk (v := .int _ _) rfl rfl) rfl rfl (Nat.le_of_ble_eq_true rfl) (.tail (.tail (.tail (.head)))) ?_)
   refine WL.nil ?_
   rw [show (0 : Int) * 3 + x = x from by omega]
   exact ⟨_, .head, .refl _⟩
 · intro D w3 hw3
   refine (show WG _ ⟨19, none, marks [D]⟩ w _ _ _ _ from ?_) w3 hw3
   have e0 : elI0 x 0 = x := rfl
   rw [e0]
   (refine WG.seq ?_; intro K hK)
   refine WC.region rfl ?_
   refine jl rfl rfl rfl (rd_pt (.tail _ (.tail _ (.head _))) rfl) ?_
   refine jm rfl rfl ?_
   refine wN hK ?_; clear hK
   refine WG.of ?_
   refine WC.ret ?_
   exact fun w' hw' => ⟨_, [D], [], rfl, hw'.sub (.cons_cons _ (List.nil_sublist _)), fun w'' hw'' => ⟨rfl, hw''.1⟩⟩
set_option maxHeartbeats 1000000 in
theorem sdigits_n (a : Nat) (w : World) (ha : a ≤ 1000) : Calls Tryz.prog 200 #[.agg shV.toArray, iv a] w fun e w' => ∃ v M, e = .returned v ∧ H w M w' ∧ ∃ D c, v = .slice D 1 c ∧ M = [vec D 1 c 3 1 [iv (a % 3 : Nat)]] := by
 have hrem : (a : Int).tmod 3 = ((a % 3 : Nat) : Int) := by rw [Int.tmod_eq_emod_of_nonneg (by omega)]; omega
 refine calls_wc (args := [.agg shV.toArray, iv a]) [4] [] Tryz.func200 rfl Tryz.ntmps200 rfl rfl rfl rfl (H.refl _) ?_
 refine uS rfl fun K hK => ?_
 refine WL.want rfl (WL1.box rfl rfl (.mk (v := .agg _) rfl rfl) rfl (fun b2 => ?_))
 refine jm rfl rfl ?_
 refine wN hK ?_; clear hK
 refine uS rfl fun K hK => ?_
 refine ja 2 rfl rfl rfl rfl ?_
 refine jl rfl rfl rfl (rd_pt (.head _) rfl) ?_
 refine jn rfl rfl rfl ?_
 refine wG rfl rfl (g_max rfl (.mk rfl rfl) (.mk rfl rfl) (if_neg (by omega))) ?_
 refine WL.want rfl (WL1.make elI rfl rfl (.mk rfl rfl) (.mk rfl rfl) (Int.toNat_of_nonneg (by omega)).symm (Int.toNat_of_nonneg (by omega)).symm (by omega) (by unfold maxLen; omega) (fun b11 => ?_))
 refine jm rfl rfl ?_
 refine wN hK ?_; clear hK
 refine WC.seq fun K hK => ?_
 refine uS rfl fun K hK => ?_
 refine jm rfl rfl ?_
 refine jn rfl rfl rfl ?_
 refine jm rfl rfl ?_
 refine wN hK ?_; clear hK
 refine WC.block ?_
 refine WC.loop (536854594) (fun i : Nat => [(14, iv i), (1, iv (dr a i))]) (fun i => [vec (some ⟨b11, 0, none⟩) 1 1 3 1 [iv (ad 0 (a % 3) i)], pt b2 SHT shV]) (fun i => i ≤ 1) (fun i => 1 - i) 0 ⟨rfl, rfl, trivial⟩ (by rw [show (madeCells (Value.int .i64 0).cells (Int.toNat 1 * 1)).toList = [iv 0] from made_iv 1]; exact .refl _) (by omega) ?_
 intro i U hi
 obtain rfl | rfl : i = 0 ∨ i = 1 := by omega
 · have hdr : dr a 0 = (a : Int) := rfl
   have had : ad 0 (a % 3) 0 = 0 := rfl
   rw [hdr, had]
   refine uS rfl fun K hK => ?_
   refine jt rfl rfl (by omega) ?_
   refine wN hK ?_; clear hK
   refine WC.seq fun K hK => ?_
   refine uT rfl rfl ?_
   refine WC.skip ?_
   (refine hK _ _ ?_; clear hK)
   refine WC.seq fun K hK => ?_
   refine WC.block ?_
   refine uS rfl fun K hK => ?_
   iterate 2 refine jm rfl rfl ?_
   refine wN hK ?_; clear hK
   refine uS rfl fun K hK => ?_
   iterate 3 refine jm rfl rfl ?_
   refine ja 1 rfl rfl rfl rfl ?_
   refine jl rfl rfl rfl (rd_pt (.tail _ (.head _)) rfl) ?_
   refine wG rfl rfl (g_rem rfl (.mk rfl rfl) (.mk rfl rfl) (by omega) hrem) ?_
   refine wG rfl rfl (g_indexAddr (sz := 1) rfl (.mk rfl rfl) (.mk rfl rfl) rfl rfl (show _ = ((0 : Nat) : Int) from rfl) (by omega) (fun _ _ => rfl)) ?_
   refine WL.want rfl (WL1.storeV1 rfl rfl (.mk rfl rfl) (.mk (v := .int _ _) rfl rfl) rfl rfl (by first | omega | (simp; done) | (simp; omega)) (.head) ?_)
   refine wN hK ?_; clear hK
   refine WC.region rfl ?_
   refine jm rfl rfl ?_
   refine ja 1 rfl rfl rfl rfl ?_
   refine jl rfl rfl rfl (rd_pt (.tail _ (.head _)) rfl) ?_
   refine wG rfl rfl (g_quo rfl (.mk rfl rfl) (.mk rfl rfl) (by omega) (IntWalk.i64_quo _ _ (by omega))) ?_
   refine jm rfl rfl ?_
   refine wN hK ?_; clear hK
   refine WC.region rfl ?_
   refine ji rfl rfl (by omega) ?_
   refine jm rfl rfl ?_
   refine WL.nil ?_
   exact ⟨1, (by repeat (first | with_reducible exact .refl _ _ | refine .set rfl ?_ | refine .put rfl ?_ | refine .sets rfl ?_ | refine .hav rfl ?_ | exact .refl _ _)), ⟨rfl, rfl, trivial⟩, .refl _, by omega, by omega⟩
 · have had : ad 0 (a % 3) 1 = (a % 3 : Nat) := rfl
   rw [had]
   refine uS rfl fun K hK => ?_
   refine jf rfl rfl (by omega) ?_
   refine wN hK ?_; clear hK
   refine WC.seq fun K hK => ?_
   refine uF rfl rfl ?_
   refine WC.exit ?_
   (clear hK; refine hK _ _ ?_; clear hK)
   refine uS rfl fun K hK => ?_
   iterate 2 refine jm rfl rfl ?_
   refine wN hK ?_; clear hK
   refine WC.ret ?_
   exact fun w' hw' => ⟨_, _, rfl, hw'.sub (.cons_cons _ (List.nil_sublist _)), some ⟨b11, 0, none⟩, 1, rfl, rfl⟩
set_option maxHeartbeats 1000000 in
theorem sadd_e (a b : Nat) (w : World) (ha : a ≤ 1000) (hb : b ≤ 1000) : Calls Tryz.prog 173 #[.agg shV.toArray, iv a, iv b] w fun e w' => e = .returned (iv ((a % 3 + b % 3) % 3 : Nat)) ∧ Below w.heap.size w w' := by
 have hrem : ((a % 3 : Nat) + (b % 3 : Nat) : Int).tmod 3 = (((a % 3 + b % 3) % 3 : Nat) : Int) := by rw [Int.tmod_eq_emod_of_nonneg (by omega)]; omega
 have h1 := fun w => sdigits_n a w ha
 have h2 := fun w => sdigits_n b w hb
 generalize ha3 : a % 3 = x at *
 generalize hb3 : b % 3 = y at *
 have hx : x ≤ 2 := by omega
 have hy : y ≤ 2 := by omega
 obtain ⟨z, hz⟩ : ∃ z, z = (x + y) % 3 := ⟨_, rfl⟩
 rw [← hz] at hrem
 have hz2 : z ≤ 2 := by omega
 refine calls_wc (args := [.agg shV.toArray, iv a, iv b]) [6] [] Tryz.func173 rfl Tryz.ntmps173 rfl rfl rfl rfl (H.refl _) ?_
 refine uS rfl fun K hK => ?_
 refine WL.want rfl (WL1.box rfl rfl (.mk (v := .agg _) rfl rfl) rfl (fun b3 => ?_))
 refine jm rfl rfl ?_
 refine wN hK ?_; clear hK
 refine WC.seq fun K hK => ?_
 refine WC.held [pt b3 SHT shV] rfl (by kernel_rfl) ?_
 refine uH 0 rfl (by decide +kernel) (iS (by repeat constructor)) rfl ⟨rfl, g_loadA rfl (.mk rfl rfl) rfl rfl (rdr_pt (.head _) (fun j u h => by simpa using h))⟩ ?_
 refine uH 1 rfl (by decide +kernel) (iS (by repeat constructor)) rfl (Gm rfl) ?_
 refine uH 3 rfl (by decide +kernel) (iS (by repeat constructor)) rfl ⟨rfl, g_loadA rfl (.mk rfl rfl) rfl rfl (rdr_pt (.head _) (fun j u h => by simpa using h))⟩ ?_
 refine uH 4 rfl (by decide +kernel) (iS (by repeat constructor)) rfl (Gm rfl) ?_
 refine WH.one 2 (by decide +kernel) rfl rfl ?_
 (refine WL1.callN rfl rfl rfl (.cons (.mk (v := .agg _) rfl rfl) (.cons (.mk (v := .int _ _) rfl rfl) .nil)) (fun w hw => h1 w) ?_; rintro _ _ ⟨D, c, rfl, rfl⟩)
 refine WL.nil ?_
 refine ⟨(iS (by repeat constructor)), ?_⟩
 refine WH.one 5 (by decide +kernel) rfl rfl ?_
 (refine WL1.callN rfl rfl rfl (.cons (.mk (v := .agg _) rfl rfl) (.cons (.mk (v := .int _ _) rfl rfl) .nil)) (fun w hw => h2 w) ?_; rintro _ _ ⟨D2, c2, rfl, rfl⟩)
 refine WL.nil ?_
 refine ⟨(iS (by repeat constructor)), ?_⟩
 refine uH 6 rfl (by decide +kernel) (iS (by repeat constructor)) rfl (Gm rfl) ?_
 refine uH 7 rfl (by decide +kernel) (iS (by repeat constructor)) rfl (Gm rfl) ?_
 refine WH.done (by decide +kernel) ?_
 (refine hK _ _ ?_; clear hK)
 refine WC.seq fun K hK => ?_
 refine uS rfl fun K hK => ?_
 refine jm rfl rfl ?_
 refine jn rfl rfl rfl ?_
 refine jm rfl rfl ?_
 refine wN hK ?_; clear hK
 refine WC.block ?_
 all_goals
   refine WC.loop (137438691840) (fun i : Nat => [(18, iv i)]) (fun i => [vec D2 1 c2 3 1 [iv y], vec D 1 c 3 1 [iv (ad x z i)], pt b3 SHT shV]) (fun i => i ≤ 1) (fun i => 1 - i) 0 ⟨rfl, trivial⟩ (.refl _) (by omega) ?_
   intro i U hi
   obtain rfl | rfl : i = 0 ∨ i = 1 := by omega
   · have had : ad x z 0 = (x : Int) := rfl
     rw [had]
     refine uS rfl fun K hK => ?_
     refine jt rfl rfl (by omega) ?_
     refine wN hK ?_; clear hK
     refine WC.seq fun K hK => ?_
     refine uT rfl rfl ?_
     refine WC.skip ?_
     (refine hK _ _ ?_; clear hK)
     refine WC.seq fun K hK => ?_
     refine WC.block ?_
     refine uS rfl fun K hK => ?_
     iterate 2 refine jm rfl rfl ?_
     refine wN hK ?_; clear hK
     refine WC.untilL [15] rfl (by kernel_rfl) ?_
     refine uP 0 rfl (by decide +kernel) (.inr (iS (by repeat constructor))) rfl rfl ?_
     refine uP 1 rfl (by decide +kernel) (.inr (iS (by repeat constructor))) rfl rfl ?_
     refine uP 2 rfl (by decide +kernel) (.inr (iS (by repeat constructor))) rfl rfl ?_
     refine uP 3 rfl (by decide +kernel) (.inr (iS (by repeat constructor))) rfl rfl ?_
     refine uB 4 rfl (by decide +kernel) (iS (by repeat constructor)) rfl ⟨rfl, g_indexAddr (sz := 1) rfl (.mk rfl rfl) (.mk rfl rfl) rfl rfl (show _ = ((0 : Nat) : Int) from rfl) (by omega) (fun w hw => vec_some hw (.tail _ (.head _)) (by omega))⟩ ?_
     refine uB 5 rfl (by decide +kernel) (iS (by repeat constructor)) rfl (Gl rfl rfl (rd_vec (.tail _ (.head _)) (rfl : ([iv x] : List Value)[_]? = some (iv x)))) ?_
     refine uP 6 rfl (by decide +kernel) (.inr (iS (by repeat constructor))) rfl rfl ?_
     refine uP 7 rfl (by decide +kernel) (.inr (iS (by repeat constructor))) rfl rfl ?_
     refine uB 8 rfl (by decide +kernel) (iS (by repeat constructor)) rfl ⟨rfl, g_indexAddr (sz := 1) rfl (.mk rfl rfl) (.mk rfl rfl) rfl rfl (show _ = ((0 : Nat) : Int) from rfl) (by omega) (fun w hw => vec_some hw (.head _) (by omega))⟩ ?_
     refine uB 9 rfl (by decide +kernel) (iS (by repeat constructor)) rfl (Gl rfl rfl (rd_vec (.head _) (rfl : ([iv y] : List Value)[_]? = some (iv y)))) ?_
     refine uG 10 rfl (by decide +kernel) (.inr (iS (by repeat constructor))) rfl (Gi rfl (by omega)) ?_
     refine uG 11 rfl (by decide +kernel) (.inr (iS (by repeat constructor))) rfl (Ga 1 rfl rfl rfl) ?_
     refine uB 12 rfl (by decide +kernel) (iS (by repeat constructor)) rfl (Gl rfl rfl (rd_pt (.tail _ (.tail _ (.head _))) rfl)) ?_
     refine uG 13 rfl (by decide +kernel) (.inr (iS (by repeat constructor))) rfl ⟨rfl, g_rem rfl (.mk rfl rfl) (.mk rfl rfl) (by omega) hrem⟩ ?_
     refine uB 14 rfl (by decide +kernel) (iS (by repeat constructor)) rfl ⟨rfl, g_indexAddr (sz := 1) rfl (.mk rfl rfl) (.mk rfl rfl) rfl rfl (show _ = ((0 : Nat) : Int) from rfl) (by omega) (fun w hw => vec_some hw (.tail _ (.head _)) (by omega))⟩ ?_
     refine WB.one 15 (by decide +kernel) rfl rfl ?_
     refine WL1.storeV1 rfl rfl (.mk rfl rfl) (.mk (v := .int _ _) rfl rfl) rfl rfl (by first | omega | (simp; done) | (simp; omega)) (.tail (.head)) ?_
     refine WL.nil ?_
     refine ⟨.inl (by decide +kernel), ?_⟩
     refine WB.done (by decide +kernel) ?_
     (refine hK _ _ ?_; clear hK)
     refine WC.region rfl ?_
     refine ji rfl rfl (by omega) ?_
     refine jm rfl rfl ?_
     refine WL.nil ?_
     exact ⟨1, (by repeat (first | with_reducible exact .refl _ _ | refine .set rfl ?_ | refine .put rfl ?_ | refine .sets rfl ?_ | refine .hav rfl ?_ | exact .refl _ _)), ⟨rfl, trivial⟩, .refl _, by omega, by omega⟩
   · have had : ad x z 1 = (z : Int) := rfl
     rw [had]
     refine uS rfl fun K hK => ?_
     refine jf rfl rfl (by omega) ?_
     refine wN hK ?_; clear hK
     refine WC.seq fun K hK => ?_
     refine uF rfl rfl ?_
     refine WC.exit ?_
     (clear hK; refine hK _ _ ?_; clear hK)
     refine uS rfl fun K hK => ?_
     refine wG rfl rfl (g_loadA rfl (.mk rfl rfl) rfl rfl (rdr_pt (.tail _ (.tail _ (.head _))) (fun j u h => by simpa using h))) ?_
     refine jm rfl rfl ?_
     refine WL.want rfl (WL1.callP rfl rfl rfl (.cons (.mk (v := .agg _) rfl rfl) (.cons (.mk (v := .slice _ _ _) rfl rfl) .nil)) (fun w hw => element_e _ z w (by omega) (Sl.of_vec hw (.tail _ (.head _)))) ?_)
     refine jm rfl rfl ?_
     refine wN hK ?_; clear hK
     refine WC.ret ?_
     exact fun w' hw' => ⟨by rw [← hz]; rfl, hw'.1⟩
theorem smul_e {w0 w : World} {L : List Asrt} {b : Nat} (x y : Nat) (hx : x ≤ 1000) (hy : y ≤ 1000) (hL : pt b SHT shV ∈ L) (hw : H w0 L w) : Calls Tryz.prog 172 #[iv x, iv y, bpv b] w fun e w' => e = .returned (iv (x * y % 3 : Nat)) ∧ Below w.heap.size w w' := by
 have hp : x * y ≤ 1000 * 1000 := Nat.mul_le_mul hx hy
 have hmul : IntKind.i64.wrap ((x : Int) * y) = ((x * y : Nat) : Int) := by rw [← Int.natCast_mul]; exact IntWalk.i64_in _ (by omega)
 generalize x * y = z at *
 have hrem : (z : Int).tmod 3 = ((z % 3 : Nat) : Int) := by rw [Int.tmod_eq_emod_of_nonneg (by omega)]; omega
 have hc : w.cell? ⟨b, 1, none⟩ = some (iv 3) := cell_pt hw hL rfl
 refine calls_wc (args := [iv x, iv y, bpv b]) [5] [] Tryz.func172 rfl Tryz.ntmps172 rfl rfl rfl rfl (H.refl _) ?_
 refine uS rfl fun K hK => ?_
 refine jm rfl rfl ?_
 refine wN hK ?_; clear hK
 refine uS rfl fun K hK => ?_
 iterate 2 refine jm rfl rfl ?_
 refine wG rfl rfl (g_mul rfl (.mk rfl rfl) (.mk rfl rfl) hmul) ?_
 refine ja 1 rfl rfl rfl rfl ?_
 refine jl rfl rfl rfl (rd_wb hc) ?_
 refine wG rfl rfl (g_rem rfl (.mk rfl rfl) (.mk rfl rfl) (by omega) hrem) ?_
 refine jm rfl rfl ?_
 refine wN hK ?_; clear hK
 refine WC.ret ?_
 exact fun w' hw' => ⟨rfl, hw'.1⟩
theorem elSh : Elem Tryz.prog 243 SHT (.agg #[iv 0, iv 0, .slice none 0 0]) 3 40 := ⟨by kernel_rfl, by kernel_rfl, rfl, by decide⟩
theorem shapes_n (w : World) : Calls Tryz.prog 169 #[] w fun e w' => ∃ v M, e = .returned v ∧ H w M w' ∧ ∃ A c ds, v = .slice A 7 c ∧ M = [vec A 7 c SHT 3 ([iv 2, iv 2, .slice none 0 0, iv 3, iv 3, .slice none 0 0] ++ ds)] := by
 refine calls_wc (args := []) [0] [] Tryz.func169 rfl Tryz.ntmps169 rfl rfl rfl rfl (H.refl _) ?_
 refine uS rfl fun K hK => ?_
 refine jm rfl rfl ?_
 refine wN hK ?_; clear hK
 refine uS rfl fun K hK => ?_
 refine wG rfl rfl (g_build (cs := [_, _, _]) rfl rfl rfl rfl (.cons (.mk (v := .int _ _) rfl rfl) (.cons (.mk (v := .int _ _) rfl rfl) (.cons (.mk (v := .slice _ _ _) rfl rfl) .nil))) rfl rfl rfl) ?_
 refine wG rfl rfl (g_build (cs := [_, _, _]) rfl rfl rfl rfl (.cons (.mk (v := .int _ _) rfl rfl) (.cons (.mk (v := .int _ _) rfl rfl) (.cons (.mk (v := .slice _ _ _) rfl rfl) .nil))) rfl rfl rfl) ?_
 refine WL.want rfl (WL1.lit (cs := [_, _]) elI rfl rfl rfl (.cons (.mk (v := .int _ _) rfl rfl) (.cons (.mk (v := .int _ _) rfl rfl) .nil)) rfl (by first | (simp [Value.cells]; done) | fail) rfl rfl (fun b3 => ?_))
 refine wG rfl rfl (g_build (cs := [_, _, _]) rfl rfl rfl rfl (.cons (.mk (v := .int _ _) rfl rfl) (.cons (.mk (v := .int _ _) rfl rfl) (.cons (.mk (v := .slice _ _ _) rfl rfl) .nil))) rfl rfl rfl) ?_
 refine wG rfl rfl (g_build (cs := [_, _, _]) rfl rfl rfl rfl (.cons (.mk (v := .int _ _) rfl rfl) (.cons (.mk (v := .int _ _) rfl rfl) (.cons (.mk (v := .slice _ _ _) rfl rfl) .nil))) rfl rfl rfl) ?_
 refine wG rfl rfl (g_build (cs := [_, _, _]) rfl rfl rfl rfl (.cons (.mk (v := .int _ _) rfl rfl) (.cons (.mk (v := .int _ _) rfl rfl) (.cons (.mk (v := .slice _ _ _) rfl rfl) .nil))) rfl rfl rfl) ?_
 refine WL.want rfl (WL1.lit (cs := [_, _, _]) elI rfl rfl rfl (.cons (.mk (v := .int _ _) rfl rfl) (.cons (.mk (v := .int _ _) rfl rfl) (.cons (.mk (v := .int _ _) rfl rfl) .nil))) rfl (by first | (simp [Value.cells]; done) | fail) rfl rfl (fun b7 => ?_))
 refine wG rfl rfl (g_build (cs := [_, _, _]) rfl rfl rfl rfl (.cons (.mk (v := .int _ _) rfl rfl) (.cons (.mk (v := .int _ _) rfl rfl) (.cons (.mk (v := .slice _ _ _) rfl rfl) .nil))) rfl rfl rfl) ?_
 refine WL.want rfl (WL1.lit (cs := [_, _]) elI rfl rfl rfl (.cons (.mk (v := .int _ _) rfl rfl) (.cons (.mk (v := .int _ _) rfl rfl) .nil)) rfl (by first | (simp [Value.cells]; done) | fail) rfl rfl (fun b9 => ?_))
 refine wG rfl rfl (g_build (cs := [_, _, _]) rfl rfl rfl rfl (.cons (.mk (v := .int _ _) rfl rfl) (.cons (.mk (v := .int _ _) rfl rfl) (.cons (.mk (v := .slice _ _ _) rfl rfl) .nil))) rfl rfl rfl) ?_
 refine WL.want rfl (WL1.lit elSh rfl rfl rfl (.cons (.mk (v := .agg _) rfl rfl) (.cons (.mk (v := .agg _) rfl rfl) (.cons (.mk (v := .agg _) rfl rfl) (.cons (.mk (v := .agg _) rfl rfl) (.cons (.mk (v := .agg _) rfl rfl) (.cons (.mk (v := .agg _) rfl rfl) (.cons (.mk (v := .agg _) rfl rfl) .nil))))))) rfl (by intro v hv; simp only [List.mem_cons, List.not_mem_nil, or_false] at hv; rcases hv with rfl | rfl | rfl | rfl | rfl | rfl | rfl <;> rfl) rfl rfl (fun b11 => ?_))
 refine jm rfl rfl ?_
 refine wN hK ?_; clear hK
 refine WC.ret ?_
 exact fun w' hw' => ⟨_, _, rfl, hw'.sub (.cons_cons _ (List.nil_sublist _)), some ⟨b11, 0, none⟩, 7, _, rfl, rfl⟩
theorem shclo_e {w : World} {b : Nat} {x y : Int} {z : Value} (hc : w.cell? ⟨b, 0, none⟩ = some (iv 3)) : Calls Tryz.prog 170 #[.agg #[iv x, iv y, z], bpv b] w fun e w' => e = .returned (.bool (decide (x = 3))) ∧ Below w.heap.size w w' := by
 by_cases h : x = 3
 · refine calls_wc (args := [.agg #[iv x, iv y, z], bpv b]) [3] [] Tryz.func170 rfl Tryz.ntmps170 rfl rfl rfl rfl (H.refl _) ?_
   refine uS rfl fun K hK => ?_
   refine WL.want rfl (WL1.box rfl rfl (.mk (v := .agg _) rfl rfl) rfl (fun b2 => ?_))
   refine jm rfl rfl ?_
   refine wN hK ?_; clear hK
   refine uS rfl fun K hK => ?_
   refine ja 0 rfl rfl rfl rfl ?_
   refine jl rfl rfl rfl (rd_pt (.head _) rfl) ?_
   refine jl rfl rfl rfl (rd_wb hc) ?_
   refine jt rfl rfl (by omega) ?_
   refine jm rfl rfl ?_
   refine wN hK ?_; clear hK
   refine WC.ret ?_
   exact fun w' hw' => ⟨by rw [decide_eq_true h]; rfl, hw'.1⟩
 · refine calls_wc (args := [.agg #[iv x, iv y, z], bpv b]) [3] [] Tryz.func170 rfl Tryz.ntmps170 rfl rfl rfl rfl (H.refl _) ?_
   refine uS rfl fun K hK => ?_
   refine WL.want rfl (WL1.box rfl rfl (.mk (v := .agg _) rfl rfl) rfl (fun b2 => ?_))
   refine jm rfl rfl ?_
   refine wN hK ?_; clear hK
   refine uS rfl fun K hK => ?_
   refine ja 0 rfl rfl rfl rfl ?_
   refine jl rfl rfl rfl (rd_pt (.head _) rfl) ?_
   refine jl rfl rfl rfl (rd_wb hc) ?_
   refine jf rfl rfl (by omega) ?_
   refine jm rfl rfl ?_
   refine wN hK ?_; clear hK
   refine WC.ret ?_
   exact fun w' hw' => ⟨by rw [decide_eq_false h]; rfl, hw'.1⟩
set_option maxHeartbeats 1000000 in
theorem shidx_e {w : World} {b c : Nat} {A : Option Addr} {ds : List Value} (hv : Sl w 3 (.slice A 7 c) 7 ([iv 2, iv 2, .slice none 0 0, iv 3, iv 3, .slice none 0 0] ++ ds)) (hc : w.cell? ⟨b, 0, none⟩ = some (iv 3)) :
   Calls Tryz.prog 168 #[.slice A 7 c, .func (.func 170) #[] [bpv b].toArray] w fun e w' => e = .returned (iv 1) ∧ Below w.heap.size w w' := by
 refine calls_wc (args := [.slice A 7 c, .func (.func 170) #[] [bpv b].toArray]) [4] ([]) Tryz.func168 rfl Tryz.ntmps168 rfl rfl rfl rfl (H.refl w) ?_
 refine uS rfl fun K hK => ?_
 refine jm rfl rfl ?_
 refine wN hK ?_; clear hK
 refine WC.seq fun K hK => ?_
 refine uS rfl fun K hK => ?_
 refine jm rfl rfl ?_
 refine jn rfl rfl rfl ?_
 refine jm rfl rfl ?_
 refine wN hK ?_; clear hK
 refine WC.block ?_
 refine WC.loop (524080) (fun k : Nat => [(8, iv k)]) (fun _ => []) (fun k => k ≤ 1) (fun k => 7 - k) 0 ⟨rfl, trivial⟩ (.refl _) (by omega) ?_
 intro k U hk
 obtain rfl | rfl : k = 0 ∨ k = 1 := by omega
 · have g0 : ∀ j u, ([iv 2, iv 2, .slice none 0 0] : List Value)[j]? = some u → ([iv 2, iv 2, .slice none 0 0, iv 3, iv 3, .slice none 0 0] ++ ds : List Value)[0 * 3 + j]? = some u := fun j u h => pre_get (es := [iv 3, iv 3, .slice none 0 0] ++ ds) (by omega) h
   have HC : ∀ w', H w [] w' → Calls Tryz.prog 170 ([Value.agg #[iv 2, iv 2, .slice none 0 0]] ++ [bpv b]).toArray w' fun e w'' => e = .returned (.bool false) ∧ Below w'.heap.size w' w'' := fun w' hw' => shclo_e (kept_cell hw'.1 hc)
   refine uS rfl fun K hK => ?_
   refine jt rfl rfl (by omega) ?_
   refine wN hK ?_; clear hK
   refine WC.seq fun K hK => ?_
   refine uT rfl rfl ?_
   refine WC.skip ?_
   (refine hK _ _ ?_; clear hK)
   refine WC.seq fun K hK => ?_
   refine WC.block ?_
   refine uS rfl fun K hK => ?_
   iterate 2 refine jm rfl rfl ?_
   refine wN hK ?_; clear hK
   refine uS rfl fun K hK => ?_
   iterate 3 refine jm rfl rfl ?_
   refine wG rfl rfl (g_indexAddr (sz := 3) rfl (.mk rfl rfl) (.mk rfl rfl) rfl rfl (show _ = ((0 : Nat) : Int) from rfl) (by omega) (fun _ _ => sl_some hv (by omega))) ?_
   refine wG rfl rfl (g_loadA rfl (.mk rfl rfl) rfl rfl (rdr_sl (cs := [iv 2, iv 2, .slice none 0 0]) hv (by omega) g0)) ?_
   refine WL.want rfl (WL1.callVP rfl rfl (.mk rfl rfl) (by first | assumption | rfl) (.cons (.mk (v := .agg _) rfl rfl) .nil) (fun w hw => HC w hw) ?_)
   refine wN hK ?_; clear hK
   refine uF rfl rfl ?_
   refine WC.skip ?_
   (refine hK _ _ ?_; clear hK)
   refine WC.region rfl ?_
   refine ji rfl rfl (by omega) ?_
   refine jm rfl rfl ?_
   refine WL.nil ?_
   exact ⟨1, (by repeat (first | with_reducible exact .refl _ _ | refine .set rfl ?_ | refine .put rfl ?_ | refine .sets rfl ?_ | refine .hav rfl ?_ | exact .refl _ _)), ⟨rfl, trivial⟩, .refl _, by omega, by omega⟩
 · have g0 : ∀ j u, ([iv 3, iv 3, .slice none 0 0] : List Value)[j]? = some u → ([iv 2, iv 2, .slice none 0 0, iv 3, iv 3, .slice none 0 0] ++ ds : List Value)[1 * 3 + j]? = some u := fun j u h => by
     match j, h with
     | 0, h => exact h
     | 1, h => exact h
     | 2, h => exact h
     | j + 3, h => simp at h
   have HC : ∀ w', H w [] w' → Calls Tryz.prog 170 ([Value.agg #[iv 3, iv 3, .slice none 0 0]] ++ [bpv b]).toArray w' fun e w'' => e = .returned (.bool true) ∧ Below w'.heap.size w' w'' := fun w' hw' => shclo_e (kept_cell hw'.1 hc)
   refine uS rfl fun K hK => ?_
   refine jt rfl rfl (by omega) ?_
   refine wN hK ?_; clear hK
   refine WC.seq fun K hK => ?_
   refine uT rfl rfl ?_
   refine WC.skip ?_
   (refine hK _ _ ?_; clear hK)
   refine WC.seq fun K hK => ?_
   refine WC.block ?_
   refine uS rfl fun K hK => ?_
   iterate 2 refine jm rfl rfl ?_
   refine wN hK ?_; clear hK
   refine uS rfl fun K hK => ?_
   iterate 3 refine jm rfl rfl ?_
   refine wG rfl rfl (g_indexAddr (sz := 3) rfl (.mk rfl rfl) (.mk rfl rfl) rfl rfl (show _ = ((1 : Nat) : Int) from rfl) (by omega) (fun _ _ => sl_some hv (by omega))) ?_
   refine wG rfl rfl (g_loadA rfl (.mk rfl rfl) rfl rfl (rdr_sl (cs := [iv 3, iv 3, .slice none 0 0]) hv (by omega) g0)) ?_
   refine WL.want rfl (WL1.callVP rfl rfl (.mk rfl rfl) (by first | assumption | rfl) (.cons (.mk (v := .agg _) rfl rfl) .nil) (fun w hw => HC w hw) ?_)
   refine wN hK ?_; clear hK
   refine uT rfl rfl ?_
   refine uS rfl fun K hK => ?_
   iterate 2 refine jm rfl rfl ?_
   refine wN hK ?_; clear hK
   refine WC.ret ?_
   exact fun w' hw' => ⟨rfl, hw'.1⟩
section
variable {P : Program} {n : Fr} {C : World → Prop} {o : Oper} {E : Env}
theorem g_makeFuncF {f : FuncId} {fs : List Operand} {vs : List Value} (ho : o.op = .makeFunc (.func f) fs.toArray #[]) (hv : Evs n E fs vs) : Gives P n C o E (.func (.func f) vs.toArray #[]) := fun w _ => by
 unfold execOp
 simp [ho, Instr.makeFunc, hv.map]
end
abbrev FT : TypeId := 249
def smR (a : Nat) : List Nat := (List.range 3).map fun b => (a % 3 + b % 3) % 3
def prR3 (a : Nat) : List Nat := (List.range 3).map fun b => a * b % 3
def smT (a : Nat) : List (List Nat) := (List.range a).map smR
def prT (a : Nat) : List (List Nat) := (List.range a).map prR3
theorem ldv_snocF (f : Nat → Nat) (b : Nat) : ldv ((List.range b).map f) ++ [iv (f b : Nat)] = ldv ((List.range (b + 1)).map f) := by
 rw [List.range_succ, List.map_append, List.map_singleton, ← ldv_snoc]
set_option maxHeartbeats 2000000 in
theorem sfnew_n (w : World) : Calls Tryz.prog 127 #[iv 3] w fun e w' => ∃ u M, e = .returned u ∧ H w M w' ∧ ∃ b S cS P cP sm pr, ils sm = smT 3 ∧ ils pr = prT 3 ∧ u = .tuple #[bpv b, iv 0] ∧
   M = pt b FT [iv 3, iv 3, .slice S 3 cS, .slice P 3 cP] :: vec S 3 cS 29 1 (sm.map IRow.v) :: rowsI sm :: vec P 3 cP 29 1 (pr.map IRow.v) :: rowsI pr :: [] := by
 have g1 : ∀ ds : List Value, ∀ j u, ([iv 3, iv 3, .slice none 0 0] : List Value)[j]? = some u → ([iv 2, iv 2, .slice none 0 0, iv 3, iv 3, .slice none 0 0] ++ ds : List Value)[1 * 3 + j]? = some u := fun ds j u h => by
   match j, h with
   | 0, h => exact h
   | 1, h => exact h
   | 2, h => exact h
   | j + 3, h => simp at h
 refine calls_wc (args := [iv 3]) [2, 3] [] Tryz.func127 rfl Tryz.ntmps127 rfl rfl rfl rfl (H.refl _) ?_
 refine uS rfl fun K hK => ?_
 refine WL.want rfl (WL1.box rfl rfl (.mk (v := .int _ _) rfl rfl) rfl (fun b1 => ?_))
 iterate 2 refine jm rfl rfl ?_
 refine wN hK ?_; clear hK
 refine uS rfl fun K hK => ?_
 (refine WL.want rfl (WL1.callN rfl rfl rfl .nil (fun w hw => shapes_n w) ?_); rintro _ _ ⟨A1, c1, d1, rfl, rfl⟩)
 refine wG rfl rfl (g_makeFunc rfl (.cons (.mk (v := cellPtr _ _) rfl rfl) .nil)) ?_
 refine WL.want rfl (WL1.callP rfl rfl rfl (.cons (.mk (v := .slice _ _ _) rfl rfl) (.cons (.mk (v := .func _ _ _) rfl rfl) .nil)) (fun w hw => shidx_e (Sl.of_vec hw (.head _)) (cell_pt hw (by repeat constructor) rfl)) ?_)
 refine jm rfl rfl ?_
 refine wN hK ?_; clear hK
 refine WC.seq fun K hK => ?_
 refine uS rfl fun K hK => ?_
 refine jm rfl rfl ?_
 refine jf rfl rfl (by omega) ?_
 refine wN hK ?_; clear hK
 refine uF rfl rfl ?_
 refine WC.skip ?_
 (refine hK _ _ ?_; clear hK)
 refine uS rfl fun K hK => ?_
 (refine WL.want rfl (WL1.callN rfl rfl rfl .nil (fun w hw => shapes_n w) ?_); rintro _ _ ⟨A2, c2, d2, rfl, rfl⟩)
 refine jm rfl rfl ?_
 refine wG rfl rfl (g_indexAddr (sz := 3) rfl (.mk rfl rfl) (.mk rfl rfl) rfl rfl (show _ = ((1 : Nat) : Int) from rfl) (by omega) (fun w hw => vec_some hw (.head _) (by omega))) ?_
 refine wG rfl rfl (g_loadA rfl (.mk rfl rfl) rfl rfl (rdr_vec (cs := shV) (.head _) (by omega) (g1 _))) ?_
 refine WL.want rfl (WL1.alloc rfl rfl rfl rfl (fun b5 => ?_))
 refine WL.want rfl (WL1.storeAll rfl rfl (.mk rfl rfl) (.mk rfl rfl) rfl (all1 rfl) (by first | rfl | (simp [Blk.len]; done)) (.head) ?_)
 refine wN hK ?_; clear hK
 refine uS rfl fun K hK => ?_
 refine wG rfl rfl (g_loadA rfl (.mk rfl rfl) rfl rfl (rdr_pt (.head _) (fun j u h => by simpa using h))) ?_
 refine wG rfl rfl (g_makeFuncF (fs := [_]) rfl (.cons (.mk (v := .agg _) rfl rfl) .nil)) ?_
 refine jm rfl rfl ?_
 refine wN hK ?_; clear hK
 refine WC.seq fun K hK => ?_
 refine uS rfl fun K hK => ?_
 refine ja 2 rfl rfl rfl rfl ?_
 refine jl rfl rfl rfl (rd_pt (.head _) rfl) ?_
 refine wG rfl rfl (g_eqSNN rfl rfl (.mk rfl rfl) (.mk rfl rfl)) ?_
 refine wN hK ?_; clear hK
 refine uT rfl rfl ?_
 refine WC.region rfl ?_
 refine wG rfl rfl (g_makeFunc rfl (.cons (.mk (v := cellPtr _ _) rfl rfl) .nil)) ?_
 refine jm rfl rfl ?_
 refine wN hK ?_; clear hK
 refine uS rfl fun K hK => ?_
 refine jl rfl rfl rfl (rd_pt (.tail _ (.tail _ (.tail _ (.head _)))) rfl) ?_
 refine ja 1 rfl rfl rfl rfl ?_
 refine jl rfl rfl rfl (rd_pt (.head _) rfl) ?_
 refine wG rfl rfl (g_build (cs := [_, _, _, _]) rfl rfl rfl rfl (.cons (.mk (v := .int _ _) rfl rfl) (.cons (.mk (v := .int _ _) rfl rfl) .nil)) rfl rfl rfl) ?_
 refine WL.want rfl (WL1.box rfl rfl (.mk (v := .agg _) rfl rfl) rfl (fun b31 => ?_))
 refine jp rfl rfl rfl ?_
 refine wN hK ?_; clear hK
 refine WC.seq fun K hK => ?_
 refine uS rfl fun K hK => ?_
 refine jl rfl rfl rfl (rd_pt (.tail _ (.tail _ (.tail _ (.tail _ (.head _))))) rfl) ?_
 refine jm rfl rfl ?_
 refine wN hK ?_; clear hK
 refine WC.block ?_
 refine WC.loopI5 (75557863725905733488384) (fun (a : Nat) (S : Option Addr × Nat) (P : Option Addr × Nat) (sm pr : List IRow) => [(33, iv a)]) (fun a S P sm pr => pt b31 FT [iv 3, iv 3, .slice S.1 a S.2, .slice P.1 a P.2] :: vec S.1 a S.2 29 1 (sm.map IRow.v) :: rowsI sm :: vec P.1 a P.2 29 1 (pr.map IRow.v) :: rowsI pr :: pt b5 SHT shV :: pt b1 3 [iv 3] :: []) (fun a _ _ sm pr => a ≤ 3 ∧ ils sm = smT a ∧ ils pr = prT a) (fun a _ _ _ _ => 3 - a) 0 (none, 0) (none, 0) [] [] ⟨rfl, trivial⟩ ?_ ⟨by omega, rfl, rfl⟩ ?_
 · exact Imp.trans (Imp.trans (imp_nilv 29 1) (Imp.trans (imp_nilv 29 1) (Imp.trans rowsI_none rowsI_none))) (Imp.pick (by repeat constructor) (Imp.pick (by repeat constructor) (Imp.pick (by repeat constructor) (Imp.pick (by repeat constructor) (Imp.pick (by repeat constructor) (Imp.pick (by repeat constructor) (Imp.pick (by repeat constructor) (Imp.nil _))))))))
 rintro a ⟨S, cS⟩ ⟨Pp, cP⟩ sm pr U ⟨ha, hsm, hpr⟩
 dsimp only
 by_cases ha3 : a < 3
 · refine uS rfl fun K hK => ?_
   refine jt rfl rfl (by omega) ?_
   refine wN hK ?_; clear hK
   refine WC.seq fun K hK => ?_
   refine uT rfl rfl ?_
   refine WC.skip ?_
   (refine hK _ _ ?_; clear hK)
   refine WC.seq fun K hK => ?_
   refine WC.block ?_
   refine uS rfl fun K hK => ?_
   iterate 2 refine jm rfl rfl ?_
   refine wN hK ?_; clear hK
   refine uS rfl fun K hK => ?_
   iterate 2 refine jm rfl rfl ?_
   refine wN hK ?_; clear hK
   refine WC.seq fun K hK => ?_
   refine uS rfl fun K hK => ?_
   refine jl rfl rfl rfl (rd_pt (.tail _ (.tail _ (.tail _ (.tail _ (.tail _ (.tail _ (.head _))))))) rfl) ?_
   refine jm rfl rfl ?_
   refine wN hK ?_; clear hK
   refine WC.block ?_
   refine WC.nilvec 3 1 (WC.nilvec 3 1 ?_)
   refine WC.loopI3 (36028659580014080) (fun (b : Nat) (X : Option Addr × Nat) (Y : Option Addr × Nat) => [(37, iv b), (9, .slice X.1 b X.2), (10, .slice Y.1 b Y.2)]) (fun b X Y => vec X.1 b X.2 3 1 (ldv ((List.range b).map fun b => (a % 3 + b % 3) % 3)) :: vec Y.1 b Y.2 3 1 (ldv ((List.range b).map fun b => a * b % 3)) :: pt b31 FT [iv 3, iv 3, .slice S a cS, .slice Pp a cP] :: vec S a cS 29 1 (sm.map IRow.v) :: rowsI sm :: vec Pp a cP 29 1 (pr.map IRow.v) :: rowsI pr :: pt b5 SHT shV :: pt b1 3 [iv 3] :: []) (fun b _ _ => b ≤ 3) (fun b _ _ => 3 - b) 0 (none, 0) (none, 0) ⟨rfl, rfl, rfl, trivial⟩ (Imp.refl _) (by omega) ?_
   rintro b ⟨X, cX⟩ ⟨Y, cY⟩ U2 hb
   dsimp only
   by_cases hb3 : b < 3
   · have h1 := fun w => sadd_e a b w (by omega) (by omega)
     have e1 : ldv ((List.range b).map fun b => (a % 3 + b % 3) % 3) ++ [iv ((a % 3 + b % 3) % 3 : Nat)] = ldv ((List.range (b + 1)).map fun b => (a % 3 + b % 3) % 3) := ldv_snocF _ b
     have e2 : ldv ((List.range b).map fun b => a * b % 3) ++ [iv (a * b % 3 : Nat)] = ldv ((List.range (b + 1)).map fun b => a * b % 3) := ldv_snocF _ b
     generalize hz1 : (a % 3 + b % 3) % 3 = z1 at h1 e1
     generalize hz2 : a * b % 3 = z2 at e2
     have h2 : ∀ {L : List Asrt} {w' : World}, pt b5 SHT shV ∈ L → H w L w' → Calls Tryz.prog 172 ([iv a, iv b] ++ [bpv b5]).toArray w' fun e w'' => e = .returned (iv z2) ∧ Below w'.heap.size w' w'' := fun hm hw' => by
       have := smul_e a b (by omega) (by omega) hm hw'
       rwa [hz2] at this
     refine uS rfl fun K hK => ?_
     refine jt rfl rfl (by omega) ?_
     refine wN hK ?_; clear hK
     refine WC.seq fun K hK => ?_
     refine uT rfl rfl ?_
     refine WC.skip ?_
     (refine hK _ _ ?_; clear hK)
     refine WC.seq fun K hK => ?_
     refine WC.block ?_
     refine uS rfl fun K hK => ?_
     iterate 2 refine jm rfl rfl ?_
     refine wN hK ?_; clear hK
     refine WC.region rfl ?_
     refine jm rfl rfl ?_
     refine wG rfl rfl (g_loadA rfl (.mk rfl rfl) rfl rfl (rdr_pt (.tail _ (.tail _ (.tail _ (.tail _ (.tail _ (.tail _ (.tail _ (.head _)))))))) (fun j u h => by simpa using h))) ?_
     iterate 2 refine jm rfl rfl ?_
     refine WL.want rfl (WL1.callP rfl rfl rfl (.cons (.mk (v := .agg _) rfl rfl) (.cons (.mk (v := .int _ _) rfl rfl) (.cons (.mk (v := .int _ _) rfl rfl) .nil))) (fun w hw => h1 w) ?_)
     refine WL.want rfl (WL1.lit (cs := [_]) elI rfl rfl rfl (.cons (.mk (v := .int _ _) rfl rfl) .nil) rfl (by first | (simp [Value.cells]; done) | fail) rfl rfl (fun b45 => ?_))
     refine WL.want rfl (WL1.append elI rfl rfl (.mk rfl rfl) (.mk rfl rfl) (.tail (.head)) (fun w hw => Sl.of_vec hw (.head _)) (all1 rfl) (by unfold maxLen; omega) (by omega) (fun A46 c46 => ?_))
     iterate 4 refine jm rfl rfl ?_
     refine WL.want rfl (WL1.callVP rfl rfl (.mk rfl rfl) (by first | assumption | rfl) (.cons (.mk (v := .int _ _) rfl rfl) (.cons (.mk (v := .int _ _) rfl rfl) .nil)) (fun w hw => h2 (by repeat constructor) hw) ?_)
     refine WL.want rfl (WL1.lit (cs := [_]) elI rfl rfl rfl (.cons (.mk (v := .int _ _) rfl rfl) .nil) rfl (by first | (simp [Value.cells]; done) | fail) rfl rfl (fun b52 => ?_))
     refine WL.want rfl (WL1.append elI rfl rfl (.mk rfl rfl) (.mk rfl rfl) (.tail (.tail (.tail (.head)))) (fun w hw => Sl.of_vec hw (.head _)) (all1 rfl) (by unfold maxLen; omega) (by omega) (fun A53 c53 => ?_))
     iterate 2 refine jm rfl rfl ?_
     refine wN hK ?_; clear hK
     refine WC.region rfl ?_
     refine ji rfl rfl (by omega) ?_
     refine jm rfl rfl ?_
     refine WL.nil ?_
     refine ⟨b + 1, (A46, c46), (A53, c53), (by repeat (first | with_reducible exact .refl _ _ | refine .set rfl ?_ | refine .put rfl ?_ | refine .sets rfl ?_ | refine .hav rfl ?_ | exact .refl _ _)), ⟨rfl, rfl, rfl, trivial⟩, ?_, by omega, by omega⟩
     dsimp only
     rw [← e1, ← e2]
     exact Imp.pick (by repeat constructor) (Imp.pick (by repeat constructor) (Imp.pick (by repeat constructor) (Imp.pick (by repeat constructor) (Imp.pick (by repeat constructor) (Imp.pick (by repeat constructor) (Imp.pick (by repeat constructor) (Imp.pick (by repeat constructor) (Imp.pick (by repeat constructor) (Imp.nil _)))))))))
   · obtain rfl : b = 3 := by omega
     refine uS rfl fun K hK => ?_
     refine jf rfl rfl (by omega) ?_
     refine wN hK ?_; clear hK
     refine WC.seq fun K hK => ?_
     refine uF rfl rfl ?_
     refine WC.exit ?_
     (clear hK; refine hK _ _ ?_; clear hK)
     refine WC.until [pt b31 FT [iv 3, iv 3, .slice S a cS, .slice Pp a cP]] [18, 19, 20, 21] rfl (by kernel_rfl) ?_
     refine uG 0 rfl (by decide +kernel) (.inr (iS (by repeat constructor))) rfl (Gp rfl rfl) ?_
     refine uG 1 rfl (by decide +kernel) (.inr (iS (by repeat constructor))) rfl (Gp rfl rfl) ?_
     refine uG 2 rfl (by decide +kernel) (.inr (iS (by repeat constructor))) rfl (Gp rfl rfl) ?_
     refine uG 3 rfl (by decide +kernel) (.inr (iS (by repeat constructor))) rfl ⟨rfl, g_nilCheck rfl (.mk rfl rfl) (fun _ _ => rfl)⟩ ?_
     refine uG 4 rfl (by decide +kernel) (.inr (iS (by repeat constructor))) rfl (Ga 2 rfl rfl rfl) ?_
     refine uB 5 rfl (by decide +kernel) (iS (by repeat constructor)) rfl (Gl rfl rfl (rd_pt (.head _) rfl)) ?_
     refine uP 6 rfl (by decide +kernel) (.inr (iS (by repeat constructor))) rfl rfl ?_
     refine uG 9 rfl (by decide +kernel) (.inr (iS (by repeat constructor))) rfl (Gp rfl rfl) ?_
     refine uG 10 rfl (by decide +kernel) (.inr (iS (by repeat constructor))) rfl ⟨rfl, g_nilCheck rfl (.mk rfl rfl) (fun _ _ => rfl)⟩ ?_
     refine uG 11 rfl (by decide +kernel) (.inr (iS (by repeat constructor))) rfl (Ga 3 rfl rfl rfl) ?_
     refine uB 12 rfl (by decide +kernel) (iS (by repeat constructor)) rfl (Gl rfl rfl (rd_pt (.head _) rfl)) ?_
     refine uP 13 rfl (by decide +kernel) (.inr (iS (by repeat constructor))) rfl rfl ?_
     refine WB.two 7 14 (by decide +kernel) rfl rfl rfl rfl ?_ ?_
     refine WL1.lit (cs := [_]) elRI rfl rfl rfl (.cons (.mk (v := .slice _ _ _) rfl rfl) .nil) rfl (by first | (simp [Value.cells]; done) | fail) rfl rfl (fun b62 => ?_)
     refine WL.nil ?_
     refine ⟨.inr (iS (by repeat constructor)), ?_⟩
     refine WB.two 8 14 (by decide +kernel) rfl rfl rfl rfl ?_ ?_
     refine WL1.append elRI rfl rfl (.mk rfl rfl) (.mk rfl rfl) (.tail (.tail (.tail (.tail (.head))))) (fun w hw => Sl.of_vec hw (.head _)) (all1 rfl) (by unfold maxLen; omega) (by omega) (fun A63 c63 => ?_)
     refine WL.nil ?_
     refine ⟨.inr (iS (by repeat constructor)), ?_⟩
     refine WB.one 14 (by decide +kernel) rfl rfl ?_
     refine WL1.lit (cs := [_]) elRI rfl rfl rfl (.cons (.mk (v := .slice _ _ _) rfl rfl) .nil) rfl (by first | (simp [Value.cells]; done) | fail) rfl rfl (fun b69 => ?_)
     refine WL.nil ?_
     refine ⟨.inr (iS (by repeat constructor)), ?_⟩
     refine WB.one 15 (by decide +kernel) rfl rfl ?_
     refine WL1.append elRI rfl rfl (.mk rfl rfl) (.mk rfl rfl) (.tail (.tail (.tail (.tail (.tail (.tail (.tail (.head)))))))) (fun w hw => Sl.of_vec hw (.head _)) (all1 rfl) (by unfold maxLen; omega) (by omega) (fun A70 c70 => ?_)
     refine WL.nil ?_
     refine ⟨.inr (iS (by repeat constructor)), ?_⟩
     refine uG 16 rfl (by decide +kernel) (.inr (iS (by repeat constructor))) rfl ⟨rfl, g_nilCheck rfl (.mk rfl rfl) (fun _ _ => rfl)⟩ ?_
     refine uG 17 rfl (by decide +kernel) (.inr (iS (by repeat constructor))) rfl (Ga 2 rfl rfl rfl) ?_
     refine WB.one 18 (by decide +kernel) rfl rfl ?_
     refine WL1.store1 rfl rfl (.mk rfl rfl) (.mk (v := .slice _ _ _) rfl rfl) rfl rfl (Nat.le_of_ble_eq_true rfl) (.tail (.tail (.tail (.tail (.tail (.tail (.head))))))) ?_
     refine WL.nil ?_
     refine ⟨.inl (by decide +kernel), ?_⟩
     refine WB.one 19 (by decide +kernel) rfl rfl ?_
     refine WL1.give rfl (g_nilCheck rfl (.mk rfl rfl) (fun _ _ => rfl)) ?_
     refine WL.nil ?_
     refine ⟨.inl (by decide +kernel), ?_⟩
     refine WB.one 20 (by decide +kernel) rfl rfl ?_
     refine WL1.give rfl (g_fieldAddr (off := 3) rfl (.mk rfl rfl) rfl (fun _ _ => rfl)) ?_
     refine WL.nil ?_
     refine ⟨.inl (by decide +kernel), ?_⟩
     refine WB.one 21 (by decide +kernel) rfl rfl ?_
     refine WL1.store1 rfl rfl (.mk rfl rfl) (.mk (v := .slice _ _ _) rfl rfl) rfl rfl (Nat.le_of_ble_eq_true rfl) (.tail (.tail (.tail (.tail (.tail (.tail (.head))))))) ?_
     refine WL.nil ?_
     refine ⟨.inl (by decide +kernel), ?_⟩
     refine WB.done (by decide +kernel) ?_
     (refine hK _ _ ?_; clear hK)
     refine WC.region rfl ?_
     refine ji rfl rfl (by omega) ?_
     refine jm rfl rfl ?_
     refine WL.nil ?_
     rotate_left
     refine WL1.lit (cs := [_]) elRI rfl rfl rfl (.cons (.mk (v := .slice _ _ _) rfl rfl) .nil) rfl (by first | (simp [Value.cells]; done) | fail) rfl rfl (fun b69 => ?_)
     refine WL.nil ?_
     refine ⟨.inr (iS (by repeat constructor)), ?_⟩
     refine WB.one 8 (by decide +kernel) rfl rfl ?_
     refine WL1.append elRI rfl rfl (.mk rfl rfl) (.mk rfl rfl) (.tail (.tail (.tail (.tail (.tail (.head)))))) (fun w hw => Sl.of_vec hw (.tail _ (.head _))) (all1 rfl) (by unfold maxLen; omega) (by omega) (fun A63 c63 => ?_)
     refine WL.nil ?_
     refine ⟨.inr (iS (by repeat constructor)), ?_⟩
     refine WB.one 15 (by decide +kernel) rfl rfl ?_
     refine WL1.append elRI rfl rfl (.mk rfl rfl) (.mk rfl rfl) (.tail (.tail (.tail (.tail (.tail (.tail (.tail (.head)))))))) (fun w hw => Sl.of_vec hw (.tail _ (.head _))) (all1 rfl) (by unfold maxLen; omega) (by omega) (fun A70 c70 => ?_)
     refine WL.nil ?_
     refine ⟨.inr (iS (by repeat constructor)), ?_⟩
     refine uG 16 rfl (by decide +kernel) (.inr (iS (by repeat constructor))) rfl ⟨rfl, g_nilCheck rfl (.mk rfl rfl) (fun _ _ => rfl)⟩ ?_
     refine uG 17 rfl (by decide +kernel) (.inr (iS (by repeat constructor))) rfl (Ga 2 rfl rfl rfl) ?_
     refine WB.one 18 (by decide +kernel) rfl rfl ?_
     refine WL1.store1 rfl rfl (.mk rfl rfl) (.mk (v := .slice _ _ _) rfl rfl) rfl rfl (Nat.le_of_ble_eq_true rfl) (.tail (.tail (.tail (.tail (.tail (.tail (.head))))))) ?_
     refine WL.nil ?_
     refine ⟨.inl (by decide +kernel), ?_⟩
     refine WB.one 19 (by decide +kernel) rfl rfl ?_
     refine WL1.give rfl (g_nilCheck rfl (.mk rfl rfl) (fun _ _ => rfl)) ?_
     refine WL.nil ?_
     refine ⟨.inl (by decide +kernel), ?_⟩
     refine WB.one 20 (by decide +kernel) rfl rfl ?_
     refine WL1.give rfl (g_fieldAddr (off := 3) rfl (.mk rfl rfl) rfl (fun _ _ => rfl)) ?_
     refine WL.nil ?_
     refine ⟨.inl (by decide +kernel), ?_⟩
     refine WB.one 21 (by decide +kernel) rfl rfl ?_
     refine WL1.store1 rfl rfl (.mk rfl rfl) (.mk (v := .slice _ _ _) rfl rfl) rfl rfl (Nat.le_of_ble_eq_true rfl) (.tail (.tail (.tail (.tail (.tail (.tail (.head))))))) ?_
     refine WL.nil ?_
     refine ⟨.inl (by decide +kernel), ?_⟩
     refine WB.done (by decide +kernel) ?_
     (refine hK _ _ ?_; clear hK)
     refine WC.region rfl ?_
     refine ji rfl rfl (by omega) ?_
     refine jm rfl rfl ?_
     refine WL.nil ?_
     rotate_left
     refine WL1.lit (cs := [_]) elRI rfl rfl rfl (.cons (.mk (v := .slice _ _ _) rfl rfl) .nil) rfl (by first | (simp [Value.cells]; done) | fail) rfl rfl (fun b69 => ?_)
     refine WL.nil ?_
     refine ⟨.inr (iS (by repeat constructor)), ?_⟩
     refine WB.one 7 (by decide +kernel) rfl rfl ?_
     refine WL1.lit (cs := [_]) elRI rfl rfl rfl (.cons (.mk (v := .slice _ _ _) rfl rfl) .nil) rfl (by first | (simp [Value.cells]; done) | fail) rfl rfl (fun b62 => ?_)
     refine WL.nil ?_
     refine ⟨.inr (iS (by repeat constructor)), ?_⟩
     refine WB.one 8 (by decide +kernel) rfl rfl ?_
     refine WL1.append elRI rfl rfl (.mk rfl rfl) (.mk rfl rfl) (.tail (.tail (.tail (.tail (.tail (.head)))))) (fun w hw => Sl.of_vec hw (.head _)) (all1 rfl) (by unfold maxLen; omega) (by omega) (fun A63 c63 => ?_)
     refine WL.nil ?_
     refine ⟨.inr (iS (by repeat constructor)), ?_⟩
     refine WB.one 15 (by decide +kernel) rfl rfl ?_
     refine WL1.append elRI rfl rfl (.mk rfl rfl) (.mk rfl rfl) (.tail (.tail (.tail (.tail (.tail (.tail (.tail (.head)))))))) (fun w hw => Sl.of_vec hw (.tail _ (.tail _ (.head _)))) (all1 rfl) (by unfold maxLen; omega) (by omega) (fun A70 c70 => ?_)
     refine WL.nil ?_
     refine ⟨.inr (iS (by repeat constructor)), ?_⟩
     refine uG 16 rfl (by decide +kernel) (.inr (iS (by repeat constructor))) rfl ⟨rfl, g_nilCheck rfl (.mk rfl rfl) (fun _ _ => rfl)⟩ ?_
     refine uG 17 rfl (by decide +kernel) (.inr (iS (by repeat constructor))) rfl (Ga 2 rfl rfl rfl) ?_
     refine WB.one 18 (by decide +kernel) rfl rfl ?_
     refine WL1.store1 rfl rfl (.mk rfl rfl) (.mk (v := .slice _ _ _) rfl rfl) rfl rfl (Nat.le_of_ble_eq_true rfl) (.tail (.tail (.tail (.tail (.tail (.tail (.head))))))) ?_
     refine WL.nil ?_
     refine ⟨.inl (by decide +kernel), ?_⟩
     refine WB.one 19 (by decide +kernel) rfl rfl ?_
     refine WL1.give rfl (g_nilCheck rfl (.mk rfl rfl) (fun _ _ => rfl)) ?_
     refine WL.nil ?_
     refine ⟨.inl (by decide +kernel), ?_⟩
     refine WB.one 20 (by decide +kernel) rfl rfl ?_
     refine WL1.give rfl (g_fieldAddr (off := 3) rfl (.mk rfl rfl) rfl (fun _ _ => rfl)) ?_
     refine WL.nil ?_
     refine ⟨.inl (by decide +kernel), ?_⟩
     refine WB.one 21 (by decide +kernel) rfl rfl ?_
     refine WL1.store1 rfl rfl (.mk rfl rfl) (.mk (v := .slice _ _ _) rfl rfl) rfl rfl (Nat.le_of_ble_eq_true rfl) (.tail (.tail (.tail (.tail (.tail (.tail (.head))))))) ?_
     refine WL.nil ?_
     refine ⟨.inl (by decide +kernel), ?_⟩
     refine WB.done (by decide +kernel) ?_
     (refine hK _ _ ?_; clear hK)
     refine WC.region rfl ?_
     refine ji rfl rfl (by omega) ?_
     refine jm rfl rfl ?_
     refine WL.nil ?_
     rotate_left
     all_goals
       have o1 : (⟨X, cX, smR a⟩ : IRow).own = vec X 3 cX 3 1 (ldv ((List.range 3).map fun b => (a % 3 + b % 3) % 3)) := rfl
       have o2 : (⟨Y, cY, prR3 a⟩ : IRow).own = vec Y 3 cY 3 1 (ldv ((List.range 3).map fun b => a * b % 3)) := rfl
       have v1 : (sm ++ [(⟨X, cX, smR a⟩ : IRow)]).map IRow.v = sm.map IRow.v ++ [.slice X 3 cX] := by rw [List.map_append]; rfl
       have v2 : (pr ++ [(⟨Y, cY, prR3 a⟩ : IRow)]).map IRow.v = pr.map IRow.v ++ [.slice Y 3 cY] := by rw [List.map_append]; rfl
       refine ⟨a + 1, (A63, c63), (A70, c70), sm ++ [⟨X, cX, smR a⟩], pr ++ [⟨Y, cY, prR3 a⟩], (by repeat (first | with_reducible exact .refl _ _ | refine .set rfl ?_ | refine .put rfl ?_ | refine .sets rfl ?_ | refine .hav rfl ?_ | exact .refl _ _)), ⟨rfl, trivial⟩, ?_, ⟨by omega, ?_, ?_⟩, by omega⟩
       · dsimp only
         rw [v1, v2]
         refine Imp.trans (M := (⟨X, cX, smR a⟩ : IRow).own :: rowsI sm :: (⟨Y, cY, prR3 a⟩ : IRow).own :: rowsI pr :: pt b31 FT [iv 3, iv 3, .slice A63 (a + 1) c63, .slice A70 (a + 1) c70] :: vec A63 (a + 1) c63 29 1 (sm.map IRow.v ++ [.slice X 3 cX]) :: vec A70 (a + 1) c70 29 1 (pr.map IRow.v ++ [.slice Y 3 cY]) :: pt b5 SHT shV :: pt b1 3 [iv 3] :: []) ?_ ?_
         · rw [o1, o2]
           exact Imp.pick (by repeat constructor) (Imp.pick (by repeat constructor) (Imp.pick (by repeat constructor) (Imp.pick (by repeat constructor) (Imp.pick (by repeat constructor) (Imp.pick (by repeat constructor) (Imp.pick (by repeat constructor) (Imp.pick (by repeat constructor) (Imp.pick (by repeat constructor) (Imp.nil _)))))))))
         · refine Imp.trans rowsI_new (Imp.trans (M := (⟨Y, cY, prR3 a⟩ : IRow).own :: rowsI pr :: rowsI (sm ++ [⟨X, cX, smR a⟩]) :: pt b31 FT [iv 3, iv 3, .slice A63 (a + 1) c63, .slice A70 (a + 1) c70] :: vec A63 (a + 1) c63 29 1 (sm.map IRow.v ++ [.slice X 3 cX]) :: vec A70 (a + 1) c70 29 1 (pr.map IRow.v ++ [.slice Y 3 cY]) :: pt b5 SHT shV :: pt b1 3 [iv 3] :: []) (Imp.pick (by repeat constructor) (Imp.pick (by repeat constructor) (Imp.refl _))) (Imp.trans rowsI_new ?_))
           exact Imp.pick (by repeat constructor) (Imp.pick (by repeat constructor) (Imp.pick (by repeat constructor) (Imp.pick (by repeat constructor) (Imp.pick (by repeat constructor) (Imp.pick (by repeat constructor) (Imp.pick (by repeat constructor) (Imp.nil _)))))))
       · show (sm ++ [_]).map IRow.l = (List.range (a + 1)).map smR
         rw [List.map_append, show sm.map IRow.l = (List.range a).map smR from hsm, List.range_succ, List.map_append]; rfl
       · show (pr ++ [_]).map IRow.l = (List.range (a + 1)).map prR3
         rw [List.map_append, show pr.map IRow.l = (List.range a).map prR3 from hpr, List.range_succ, List.map_append]; rfl
 · obtain rfl : a = 3 := by omega
   refine uS rfl fun K hK => ?_
   refine jf rfl rfl (by omega) ?_
   refine wN hK ?_; clear hK
   refine WC.seq fun K hK => ?_
   refine uF rfl rfl ?_
   refine WC.exit ?_
   (clear hK; refine hK _ _ ?_; clear hK)
   refine uS rfl fun K hK => ?_
   iterate 2 refine jp rfl rfl rfl ?_
   refine jm rfl rfl ?_
   refine wN hK ?_; clear hK
   refine WC.ret ?_
   exact fun w' hw' => ⟨_, _, rfl, hw'.sub (.cons_cons _ (.cons_cons _ (.cons_cons _ (.cons_cons _ (.cons_cons _ (List.nil_sublist _)))))), b31, S, cS, Pp, cP, sm, pr, hsm, hpr, rfl, rfl⟩
def FldAt (w : World) (b : Nat) : Prop := ∃ S cS Pp cP sm pr, w.cell? ⟨b, 0, none⟩ = some (iv 3) ∧ w.cell? ⟨b, 2, none⟩ = some (.slice S 3 cS) ∧ w.cell? ⟨b, 3, none⟩ = some (.slice Pp 3 cP) ∧ IMat w (.slice S 3 cS) sm ∧ IMat w (.slice Pp 3 cP) pr ∧ ils sm = smT 3 ∧ ils pr = prT 3
theorem FldAt.below {w w' : World} {b : Nat} (h : FldAt w b) (hb : Below w.heap.size w w') : FldAt w' b := by
 obtain ⟨S, cS, Pp, cP, sm, pr, h0, h2, h3, hs, hp, e1, e2⟩ := h
 exact ⟨S, cS, Pp, cP, sm, pr, kept_cell hb h0, kept_cell hb h2, kept_cell hb h3, hs.below hb, hp.below hb, e1, e2⟩
theorem FldAt.of {w0 w : World} {L : List Asrt} {b cS cP : Nat} {S Pp : Option Addr} {sm pr : List IRow} (hw : H w0 L w) (h0 : pt b FT [iv 3, iv 3, .slice S 3 cS, .slice Pp 3 cP] ∈ L) (h1 : vec S 3 cS 29 1 (sm.map IRow.v) ∈ L) (h2 : rowsI sm ∈ L) (h3 : vec Pp 3 cP 29 1 (pr.map IRow.v) ∈ L) (h4 : rowsI pr ∈ L) (e1 : ils sm = smT 3) (e2 : ils pr = prT 3) : FldAt w b := by
 have l1 : sm.length = 3 := by have := congrArg List.length e1; rw [List.length_map] at this; rw [this]; rfl
 have l2 : pr.length = 3 := by have := congrArg List.length e2; rw [List.length_map] at this; rw [this]; rfl
 exact ⟨S, cS, Pp, cP, sm, pr, cell_pt hw h0 rfl, cell_pt hw h0 rfl, cell_pt hw h0 rfl, IMat.of_rows hw h1 h2 l1, IMat.of_rows hw h3 h4 l2, e1, e2⟩
theorem tab_row {w : World} {v : Value} {rs : List IRow} {f : Nat → List Nat} (h : IMat w v rs) (e : ils rs = (List.range 3).map f) {a : Nat} (ha : a < 3) (hl : (f a).length = 3) : a < rs.length ∧ ∃ A c, nth rs a = ⟨A, c, f a⟩ ∧ Sl w 1 (.slice A 3 c) 3 (ldv (f a)) := by
 have l : rs.length = 3 := by have := congrArg List.length e; rw [List.length_map] at this; rw [this]; simp
 have e1 : (nth rs a).l = f a := by rw [← ils_at (by omega), e]; exact nth_range _ ha
 have hr := h.row (k := a) (by omega)
 obtain ⟨A, c, l', hn⟩ : ∃ A c l', nth rs a = ⟨A, c, l'⟩ := ⟨_, _, _, rfl⟩
 rw [hn] at e1 hr
 dsimp only at e1
 subst e1
 refine ⟨by omega, A, c, hn, ?_⟩
 unfold IRow.v at hr
 dsimp only at hr
 rwa [hl] at hr
theorem has_e {w : World} {b : Nat} (a : Nat) (ha : a < 3) (hf : FldAt w b) : Calls Tryz.prog 174 #[bpv b, iv a] w fun e w' => e = .returned (.bool true) ∧ Below w.heap.size w w' := by
 obtain ⟨S, cS, Pp, cP, sm, pr, h0, h2, h3, hs, hp, e1, e2⟩ := hf
 refine calls_wc (args := [bpv b, iv a]) [4] [] Tryz.func174 rfl Tryz.ntmps174 rfl rfl rfl rfl (H.refl _) ?_
 refine uS rfl fun K hK => ?_
 refine jm rfl rfl ?_
 refine wN hK ?_; clear hK
 refine uS rfl fun K hK => ?_
 refine jp rfl rfl rfl ?_
 refine wG rfl rfl (g_nePN rfl (.mk rfl rfl) (.mk rfl rfl) rfl (fun _ _ => rfl)) ?_
 refine jm rfl rfl ?_
 refine qm rfl rfl ?_
 refine qt rfl rfl (by omega) ?_
 iterate 2 refine jm rfl rfl ?_
 refine qm rfl rfl ?_
 refine qp rfl rfl rfl ?_
 refine qW rfl (WL1.give rfl (g_nilCheck rfl (.mk rfl rfl) (fun _ _ => rfl)) ?_)
 refine qa 0 rfl rfl rfl rfl ?_
 refine ql rfl rfl rfl (rd_wb h0) ?_
 refine qt rfl rfl (by omega) ?_
 iterate 2 refine jm rfl rfl ?_
 refine wN hK ?_; clear hK
 refine WC.ret ?_
 exact fun w' hw' => ⟨rfl, hw'.1⟩
set_option maxHeartbeats 1000000 in
theorem fadd_e {w : World} {b : Nat} (x y : Nat) (hx : x < 3) (hy : y < 3) (hf : FldAt w b) : Calls Tryz.prog 128 #[bpv b, iv x, iv y] w fun e w' => e = .returned (iv ((x % 3 + y % 3) % 3 : Nat)) ∧ Below w.heap.size w w' := by
 have h1 := fun w' (hb : Below w.heap.size w w') => has_e x hx (hf.below hb)
 have h1y := fun w' (hb : Below w.heap.size w w') => has_e y hy (hf.below hb)
 obtain ⟨S, cS, Pp, cP, sm, pr, h0, h2, h3, hs, hp, e1, e2⟩ := hf
 obtain ⟨hl, A, c, hn, hr⟩ := tab_row hs e1 hx rfl
 have hsl := hs.1
 have hl3 : sm.length = 3 := by have := congrArg List.length e1; rw [List.length_map] at this; rw [this]; rfl
 rw [hl3] at hsl
 have hcell : (sm.map IRow.v)[x * 1]? = some (.slice A 3 c) := by rw [irowv_get hl, hn]; rfl
 have hv : (ldv (smR x))[y * 1]? = some (iv ((x % 3 + y % 3) % 3 : Nat)) := by
   rw [ldv_get (by exact hy : y < (smR x).length)]
   congr 3
   exact nth_range _ hy
 refine calls_wc (args := [bpv b, iv x, iv y]) [6] [] Tryz.func128 rfl Tryz.ntmps128 rfl rfl rfl rfl (H.refl _) ?_
 refine uS rfl fun K hK => ?_
 refine jm rfl rfl ?_
 refine wN hK ?_; clear hK
 refine WC.seq fun K hK => ?_
 refine uS rfl fun K hK => ?_
 refine jp rfl rfl rfl ?_
 refine jm rfl rfl ?_
 refine WL.want rfl (WL1.callP rfl rfl rfl (.cons (.mk (v := cellPtr _ _) rfl rfl) (.cons (.mk (v := .int _ _) rfl rfl) .nil)) (fun w hw => h1 w hw.1) ?_)
 iterate 2 refine jm rfl rfl ?_
 refine qp rfl rfl rfl ?_
 refine qm rfl rfl ?_
 refine qW rfl (WL1.callP rfl rfl rfl (.cons (.mk (v := cellPtr _ _) rfl rfl) (.cons (.mk (v := .int _ _) rfl rfl) .nil)) (fun w hw => h1y w hw.1) ?_)
 refine qm rfl rfl ?_
 refine jm rfl rfl ?_
 refine wN hK ?_; clear hK
 refine uF rfl rfl ?_
 refine WC.skip ?_
 (refine hK _ _ ?_; clear hK)
 refine uS rfl fun K hK => ?_
 refine jp rfl rfl rfl ?_
 refine wG rfl rfl (g_nilCheck rfl (.mk rfl rfl) (fun _ _ => rfl)) ?_
 refine ja 2 rfl rfl rfl rfl ?_
 refine jl rfl rfl rfl (rd_wb h2) ?_
 refine jm rfl rfl ?_
 refine wG rfl rfl (g_indexAddr (sz := 1) rfl (.mk rfl rfl) (.mk rfl rfl) rfl rfl rfl (by omega) (fun _ _ => sl_some hsl (by omega))) ?_
 refine jl rfl rfl rfl (rd_sl hsl hcell) ?_
 refine jm rfl rfl ?_
 refine wG rfl rfl (g_indexAddr (sz := 1) rfl (.mk rfl rfl) (.mk rfl rfl) rfl rfl rfl (by omega) (fun _ _ => sl_some hr (by omega))) ?_
 refine jl rfl rfl rfl (rd_sl hr hv) ?_
 refine jm rfl rfl ?_
 refine wN hK ?_; clear hK
 refine WC.ret ?_
 exact fun w' hw' => ⟨rfl, hw'.1⟩
set_option maxHeartbeats 1000000 in
theorem fmul_e {w : World} {b : Nat} (x y : Nat) (hx : x < 3) (hy : y < 3) (hf : FldAt w b) : Calls Tryz.prog 129 #[bpv b, iv x, iv y] w fun e w' => e = .returned (iv (x * y % 3 : Nat)) ∧ Below w.heap.size w w' := by
 have h1 := fun w' (hb : Below w.heap.size w w') => has_e x hx (hf.below hb)
 have h1y := fun w' (hb : Below w.heap.size w w') => has_e y hy (hf.below hb)
 obtain ⟨S, cS, Pp, cP, sm, pr, h0, h2, h3, hs, hp, e1, e2⟩ := hf
 obtain ⟨hl, A, c, hn, hr⟩ := tab_row hp e2 hx rfl
 have hsl := hp.1
 have hl3 : pr.length = 3 := by have := congrArg List.length e2; rw [List.length_map] at this; rw [this]; rfl
 rw [hl3] at hsl
 have hcell : (pr.map IRow.v)[x * 1]? = some (.slice A 3 c) := by rw [irowv_get hl, hn]; rfl
 have hv : (ldv (prR3 x))[y * 1]? = some (iv (x * y % 3 : Nat)) := by
   rw [ldv_get (by exact hy : y < (prR3 x).length)]
   congr 3
   exact nth_range _ hy
 generalize x * y % 3 = z at *
 refine calls_wc (args := [bpv b, iv x, iv y]) [6] [] Tryz.func129 rfl Tryz.ntmps129 rfl rfl rfl rfl (H.refl _) ?_
 refine uS rfl fun K hK => ?_
 refine jm rfl rfl ?_
 refine wN hK ?_; clear hK
 refine WC.seq fun K hK => ?_
 refine uS rfl fun K hK => ?_
 refine jp rfl rfl rfl ?_
 refine jm rfl rfl ?_
 refine WL.want rfl (WL1.callP rfl rfl rfl (.cons (.mk (v := cellPtr _ _) rfl rfl) (.cons (.mk (v := .int _ _) rfl rfl) .nil)) (fun w hw => h1 w hw.1) ?_)
 iterate 2 refine jm rfl rfl ?_
 refine qp rfl rfl rfl ?_
 refine qm rfl rfl ?_
 refine qW rfl (WL1.callP rfl rfl rfl (.cons (.mk (v := cellPtr _ _) rfl rfl) (.cons (.mk (v := .int _ _) rfl rfl) .nil)) (fun w hw => h1y w hw.1) ?_)
 refine qm rfl rfl ?_
 refine jm rfl rfl ?_
 refine wN hK ?_; clear hK
 refine uF rfl rfl ?_
 refine WC.skip ?_
 (refine hK _ _ ?_; clear hK)
 refine uS rfl fun K hK => ?_
 refine jp rfl rfl rfl ?_
 refine wG rfl rfl (g_nilCheck rfl (.mk rfl rfl) (fun _ _ => rfl)) ?_
 refine ja 3 rfl rfl rfl rfl ?_
 refine jl rfl rfl rfl (rd_wb h3) ?_
 refine jm rfl rfl ?_
 refine wG rfl rfl (g_indexAddr (sz := 1) rfl (.mk rfl rfl) (.mk rfl rfl) rfl rfl rfl (by omega) (fun _ _ => sl_some hsl (by omega))) ?_
 refine jl rfl rfl rfl (rd_sl hsl hcell) ?_
 refine jm rfl rfl ?_
 refine wG rfl rfl (g_indexAddr (sz := 1) rfl (.mk rfl rfl) (.mk rfl rfl) rfl rfl rfl (by omega) (fun _ _ => sl_some hr (by omega))) ?_
 refine jl rfl rfl rfl (rd_sl hr hv) ?_
 refine jm rfl rfl ?_
 refine wN hK ?_; clear hK
 refine WC.ret ?_
 exact fun w' hw' => ⟨rfl, hw'.1⟩
set_option maxHeartbeats 1000000 in
theorem index1_e {w : World} {A : Option Addr} {c : Nat} (x : Nat) (hx : x = 1 ∨ x = 2) (hv : Sl w 1 (.slice A 3 c) 3 (ldv (prR3 x))) : Calls Tryz.prog 145 #[.slice A 3 c, iv 1] w fun e w' => e = .returned (iv x) ∧ Below w.heap.size w w' := by
 have hl : (prR3 x).length = 3 := rfl
 have hp : prR3 1 = [0, 1, 2] := by decide
 have hp2 : prR3 2 = [0, 2, 1] := by decide
 refine calls_wc (args := [.slice A 3 c, iv 1]) [4] [] Tryz.func145 rfl Tryz.ntmps145 rfl rfl rfl rfl (H.refl _) ?_
 refine uS rfl fun K hK => ?_
 refine jm rfl rfl ?_
 refine wN hK ?_; clear hK
 refine WC.seq fun K hK => ?_
 refine uS rfl fun K hK => ?_
 refine jm rfl rfl ?_
 refine jn rfl rfl rfl ?_
 refine jm rfl rfl ?_
 refine wN hK ?_; clear hK
 refine WC.block ?_
 refine WC.loop (524080) (fun k : Nat => [(8, iv k)]) (fun _ => []) (fun k => k ≤ x) (fun k => 3 - k) 0 ⟨rfl, trivial⟩ (.refl _) (by omega) ?_
 intro k U hk
 rcases hx with rfl | rfl
 · rw [hp] at hv
   obtain rfl | rfl : k = 0 ∨ k = 1 := by omega
   · refine uS rfl fun K hK => ?_
     refine jt rfl rfl (by omega) ?_
     refine wN hK ?_; clear hK
     refine WC.seq fun K hK => ?_
     refine uT rfl rfl ?_
     refine WC.skip ?_
     (refine hK _ _ ?_; clear hK)
     refine WC.seq fun K hK => ?_
     refine WC.block ?_
     refine uS rfl fun K hK => ?_
     iterate 2 refine jm rfl rfl ?_
     refine wN hK ?_; clear hK
     refine uS rfl fun K hK => ?_
     iterate 3 refine jm rfl rfl ?_
     refine wG rfl rfl (g_indexAddr (sz := 1) rfl (.mk rfl rfl) (.mk rfl rfl) rfl rfl (show _ = ((0 : Nat) : Int) from rfl) (by omega) (fun _ _ => sl_some hv (by omega))) ?_
     refine jl rfl rfl rfl (rd_sl hv (rfl : (ldv [0, 1, 2])[_]? = some (iv 0))) ?_
     refine jf rfl rfl (by omega) ?_
     refine wN hK ?_; clear hK
     refine uF rfl rfl ?_
     refine WC.skip ?_
     (refine hK _ _ ?_; clear hK)
     refine WC.region rfl ?_
     refine ji rfl rfl (by omega) ?_
     refine jm rfl rfl ?_
     refine WL.nil ?_
     exact ⟨1, (by repeat (first | with_reducible exact .refl _ _ | refine .set rfl ?_ | refine .put rfl ?_ | refine .sets rfl ?_ | refine .hav rfl ?_ | exact .refl _ _)), ⟨rfl, trivial⟩, .refl _, by omega, by omega⟩
   · refine uS rfl fun K hK => ?_
     refine jt rfl rfl (by omega) ?_
     refine wN hK ?_; clear hK
     refine WC.seq fun K hK => ?_
     refine uT rfl rfl ?_
     refine WC.skip ?_
     (refine hK _ _ ?_; clear hK)
     refine WC.seq fun K hK => ?_
     refine WC.block ?_
     refine uS rfl fun K hK => ?_
     iterate 2 refine jm rfl rfl ?_
     refine wN hK ?_; clear hK
     refine uS rfl fun K hK => ?_
     iterate 3 refine jm rfl rfl ?_
     refine wG rfl rfl (g_indexAddr (sz := 1) rfl (.mk rfl rfl) (.mk rfl rfl) rfl rfl (show _ = ((1 : Nat) : Int) from rfl) (by omega) (fun _ _ => sl_some hv (by omega))) ?_
     refine jl rfl rfl rfl (rd_sl hv (rfl : (ldv [0, 1, 2])[_]? = some (iv 1))) ?_
     refine jt rfl rfl (by omega) ?_
     refine wN hK ?_; clear hK
     refine uT rfl rfl ?_
     refine uS rfl fun K hK => ?_
     iterate 2 refine jm rfl rfl ?_
     refine wN hK ?_; clear hK
     refine WC.ret ?_
     exact fun w' hw' => ⟨rfl, hw'.1⟩
 · rw [hp2] at hv
   obtain rfl | rfl | rfl : k = 0 ∨ k = 1 ∨ k = 2 := by omega
   · refine uS rfl fun K hK => ?_
     refine jt rfl rfl (by omega) ?_
     refine wN hK ?_; clear hK
     refine WC.seq fun K hK => ?_
     refine uT rfl rfl ?_
     refine WC.skip ?_
     (refine hK _ _ ?_; clear hK)
     refine WC.seq fun K hK => ?_
     refine WC.block ?_
     refine uS rfl fun K hK => ?_
     iterate 2 refine jm rfl rfl ?_
     refine wN hK ?_; clear hK
     refine uS rfl fun K hK => ?_
     iterate 3 refine jm rfl rfl ?_
     refine wG rfl rfl (g_indexAddr (sz := 1) rfl (.mk rfl rfl) (.mk rfl rfl) rfl rfl (show _ = ((0 : Nat) : Int) from rfl) (by omega) (fun _ _ => sl_some hv (by omega))) ?_
     refine jl rfl rfl rfl (rd_sl hv (rfl : (ldv [0, 2, 1])[_]? = some (iv 0))) ?_
     refine jf rfl rfl (by omega) ?_
     refine wN hK ?_; clear hK
     refine uF rfl rfl ?_
     refine WC.skip ?_
     (refine hK _ _ ?_; clear hK)
     refine WC.region rfl ?_
     refine ji rfl rfl (by omega) ?_
     refine jm rfl rfl ?_
     refine WL.nil ?_
     exact ⟨1, (by repeat (first | with_reducible exact .refl _ _ | refine .set rfl ?_ | refine .put rfl ?_ | refine .sets rfl ?_ | refine .hav rfl ?_ | exact .refl _ _)), ⟨rfl, trivial⟩, .refl _, by omega, by omega⟩
   · refine uS rfl fun K hK => ?_
     refine jt rfl rfl (by omega) ?_
     refine wN hK ?_; clear hK
     refine WC.seq fun K hK => ?_
     refine uT rfl rfl ?_
     refine WC.skip ?_
     (refine hK _ _ ?_; clear hK)
     refine WC.seq fun K hK => ?_
     refine WC.block ?_
     refine uS rfl fun K hK => ?_
     iterate 2 refine jm rfl rfl ?_
     refine wN hK ?_; clear hK
     refine uS rfl fun K hK => ?_
     iterate 3 refine jm rfl rfl ?_
     refine wG rfl rfl (g_indexAddr (sz := 1) rfl (.mk rfl rfl) (.mk rfl rfl) rfl rfl (show _ = ((1 : Nat) : Int) from rfl) (by omega) (fun _ _ => sl_some hv (by omega))) ?_
     refine jl rfl rfl rfl (rd_sl hv (rfl : (ldv [0, 2, 1])[_]? = some (iv 2))) ?_
     refine jf rfl rfl (by omega) ?_
     refine wN hK ?_; clear hK
     refine uF rfl rfl ?_
     refine WC.skip ?_
     (refine hK _ _ ?_; clear hK)
     refine WC.region rfl ?_
     refine ji rfl rfl (by omega) ?_
     refine jm rfl rfl ?_
     refine WL.nil ?_
     exact ⟨2, (by repeat (first | with_reducible exact .refl _ _ | refine .set rfl ?_ | refine .put rfl ?_ | refine .sets rfl ?_ | refine .hav rfl ?_ | exact .refl _ _)), ⟨rfl, trivial⟩, .refl _, by omega, by omega⟩
   · refine uS rfl fun K hK => ?_
     refine jt rfl rfl (by omega) ?_
     refine wN hK ?_; clear hK
     refine WC.seq fun K hK => ?_
     refine uT rfl rfl ?_
     refine WC.skip ?_
     (refine hK _ _ ?_; clear hK)
     refine WC.seq fun K hK => ?_
     refine WC.block ?_
     refine uS rfl fun K hK => ?_
     iterate 2 refine jm rfl rfl ?_
     refine wN hK ?_; clear hK
     refine uS rfl fun K hK => ?_
     iterate 3 refine jm rfl rfl ?_
     refine wG rfl rfl (g_indexAddr (sz := 1) rfl (.mk rfl rfl) (.mk rfl rfl) rfl rfl (show _ = ((2 : Nat) : Int) from rfl) (by omega) (fun _ _ => sl_some hv (by omega))) ?_
     refine jl rfl rfl rfl (rd_sl hv (rfl : (ldv [0, 2, 1])[_]? = some (iv 1))) ?_
     refine jt rfl rfl (by omega) ?_
     refine wN hK ?_; clear hK
     refine uT rfl rfl ?_
     refine uS rfl fun K hK => ?_
     iterate 2 refine jm rfl rfl ?_
     refine wN hK ?_; clear hK
     refine WC.ret ?_
     exact fun w' hw' => ⟨rfl, hw'.1⟩
set_option maxHeartbeats 1000000 in
theorem finv_e {w : World} {b : Nat} (x : Nat) (hx : x = 1 ∨ x = 2) (hf : FldAt w b) : Calls Tryz.prog 199 #[bpv b, iv x] w fun e w' => e = .returned (iv x) ∧ Below w.heap.size w w' := by
 have h1 := fun w' (hb : Below w.heap.size w w') => has_e x (by omega) (hf.below hb)
 obtain ⟨S, cS, Pp, cP, sm, pr, h0, h2, h3, hs, hp, e1, e2⟩ := hf
 obtain ⟨hl, A, c, hn, hr⟩ := tab_row hp e2 (by omega : x < 3) rfl
 have hsl := hp.1
 have hl3 : pr.length = 3 := by have := congrArg List.length e2; rw [List.length_map] at this; rw [this]; rfl
 rw [hl3] at hsl
 have hcell : (pr.map IRow.v)[x * 1]? = some (.slice A 3 c) := by rw [irowv_get hl, hn]; rfl
 have hix := fun w' (hb : Below w.heap.size w w') => index1_e x hx (hr.below hb)
 refine calls_wc (args := [bpv b, iv x]) [4] [] Tryz.func199 rfl Tryz.ntmps199 rfl rfl rfl rfl (H.refl _) ?_
 refine uS rfl fun K hK => ?_
 refine jm rfl rfl ?_
 refine wN hK ?_; clear hK
 refine WC.seq fun K hK => ?_
 refine uS rfl fun K hK => ?_
 refine jp rfl rfl rfl ?_
 refine jm rfl rfl ?_
 refine WL.want rfl (WL1.callP rfl rfl rfl (.cons (.mk (v := cellPtr _ _) rfl rfl) (.cons (.mk (v := .int _ _) rfl rfl) .nil)) (fun w hw => h1 w hw.1) ?_)
 refine jm rfl rfl ?_
 refine wN hK ?_; clear hK
 refine uF rfl rfl ?_
 refine WC.skip ?_
 (refine hK _ _ ?_; clear hK)
 refine uS rfl fun K hK => ?_
 refine jp rfl rfl rfl ?_
 refine wG rfl rfl (g_nilCheck rfl (.mk rfl rfl) (fun _ _ => rfl)) ?_
 refine ja 3 rfl rfl rfl rfl ?_
 refine jl rfl rfl rfl (rd_wb h3) ?_
 refine jm rfl rfl ?_
 refine wG rfl rfl (g_indexAddr (sz := 1) rfl (.mk rfl rfl) (.mk rfl rfl) rfl rfl rfl (by omega) (fun _ _ => sl_some hsl (by omega))) ?_
 refine jl rfl rfl rfl (rd_sl hsl hcell) ?_
 refine WL.want rfl (WL1.callP rfl rfl rfl (.cons (.mk (v := .slice _ _ _) rfl rfl) (.cons (.mk (v := .int _ _) rfl rfl) .nil)) (fun w hw => hix w hw.1) ?_)
 refine jm rfl rfl ?_
 refine wN hK ?_; clear hK
 refine WC.ret ?_
 exact fun w' hw' => ⟨rfl, hw'.1⟩
theorem nzclo_e (x : Nat) (w : World) : Calls Tryz.prog 198 #[iv x] w fun e w' => e = .returned (.bool (decide (x ≠ 0))) ∧ Below w.heap.size w w' := by
 by_cases h : x = 0
 · refine calls_wc (args := [iv x]) [2] [] Tryz.func198 rfl Tryz.ntmps198 rfl rfl rfl rfl (H.refl _) ?_
   refine uS rfl fun K hK => ?_
   refine jm rfl rfl ?_
   refine wN hK ?_; clear hK
   refine uS rfl fun K hK => ?_
   refine jm rfl rfl ?_
   refine jf rfl rfl (by omega) ?_
   refine jm rfl rfl ?_
   refine wN hK ?_; clear hK
   refine WC.ret ?_
   exact fun w' hw' => ⟨by rw [decide_eq_false (fun h' => h' h)]; rfl, hw'.1⟩
 · refine calls_wc (args := [iv x]) [2] [] Tryz.func198 rfl Tryz.ntmps198 rfl rfl rfl rfl (H.refl _) ?_
   refine uS rfl fun K hK => ?_
   refine jm rfl rfl ?_
   refine wN hK ?_; clear hK
   refine uS rfl fun K hK => ?_
   refine jm rfl rfl ?_
   refine jt rfl rfl (by omega) ?_
   refine jm rfl rfl ?_
   refine wN hK ?_; clear hK
   refine WC.ret ?_
   exact fun w' hw' => ⟨by rw [decide_eq_true h]; rfl, hw'.1⟩
def nzI (l : List Nat) : Nat → Int
 | 0 => -1
 | d + 1 => if nth l (l.length - (d + 1)) ≠ 0 then ((l.length - (d + 1) : Nat) : Int) else nzI l d
set_option maxHeartbeats 1000000 in
theorem nzidx_e {w : World} {A : Option Addr} {c n : Nat} {l : List Nat} (hn : l.length = n) (hn2 : n ≤ 1000) (hv : Sl w 1 (.slice A n c) n (ldv l)) : Calls Tryz.prog 178 #[.slice A n c, .func (.func 198) #[] #[]] w fun e w' => e = .returned (iv (nzI l n)) ∧ Below w.heap.size w w' := by
 subst hn
 refine calls_wc (args := [.slice A l.length c, .func (.func 198) #[] #[]]) [4] [] Tryz.func178 rfl Tryz.ntmps178 rfl rfl rfl rfl (H.refl _) ?_
 refine uS rfl fun K hK => ?_
 refine jm rfl rfl ?_
 refine wN hK ?_; clear hK
 refine WC.seq fun K hK => ?_
 refine uS rfl fun K hK => ?_
 refine jm rfl rfl ?_
 refine jn rfl rfl rfl ?_
 refine jm rfl rfl ?_
 refine wN hK ?_; clear hK
 refine WC.block ?_
 refine WC.loop (524080) (fun k : Nat => [(8, iv k)]) (fun _ => []) (fun k => k ≤ l.length ∧ nzI l l.length = nzI l (l.length - k)) (fun k => l.length - k) 0 ⟨rfl, trivial⟩ (.refl _) ⟨by omega, rfl⟩ ?_
 rintro k U ⟨hk, hq⟩
 by_cases hlt : k < l.length
 · have hg := ldv_get (ld := l) hlt
   have hst : nzI l (l.length - k) = if nth l k ≠ 0 then (k : Int) else nzI l (l.length - (k + 1)) := by
     rw [show l.length - k = (l.length - (k + 1)) + 1 from by omega, nzI, show l.length - (l.length - (k + 1) + 1) = k from by omega]
   have hcl : ∀ w, Calls Tryz.prog 198 ([iv (nth l k : Nat)] ++ []).toArray w fun e w' => e = .returned (.bool (decide (nth l k ≠ 0))) ∧ Below w.heap.size w w' := fun w => nzclo_e _ w
   by_cases h0 : nth l k = 0
   · rw [if_neg (fun h => h h0)] at hst
     rw [decide_eq_false (fun h : nth l k ≠ 0 => h h0)] at hcl
     generalize nth l k = z at *
     refine uS rfl fun K hK => ?_
     refine jt rfl rfl (by omega) ?_
     refine wN hK ?_; clear hK
     refine WC.seq fun K hK => ?_
     refine uT rfl rfl ?_
     refine WC.skip ?_
     (refine hK _ _ ?_; clear hK)
     refine WC.seq fun K hK => ?_
     refine WC.block ?_
     refine uS rfl fun K hK => ?_
     iterate 2 refine jm rfl rfl ?_
     refine wN hK ?_; clear hK
     refine uS rfl fun K hK => ?_
     iterate 3 refine jm rfl rfl ?_
     refine wG rfl rfl (g_indexAddr (sz := 1) rfl (.mk rfl rfl) (.mk rfl rfl) rfl rfl rfl (by omega) (fun _ _ => sl_some hv (by omega))) ?_
     refine jl rfl rfl rfl (rd_sl hv hg) ?_
     refine WL.want rfl (WL1.callVP rfl rfl (.mk rfl rfl) (by first | assumption | rfl) (.cons (.mk (v := .int _ _) rfl rfl) .nil) (fun w hw => hcl w) ?_)
     refine wN hK ?_; clear hK
     refine uF rfl rfl ?_
     refine WC.skip ?_
     (refine hK _ _ ?_; clear hK)
     refine WC.region rfl ?_
     refine ji rfl rfl (by omega) ?_
     refine jm rfl rfl ?_
     refine WL.nil ?_
     exact ⟨k + 1, (by repeat (first | with_reducible exact .refl _ _ | refine .set rfl ?_ | refine .put rfl ?_ | refine .sets rfl ?_ | refine .hav rfl ?_ | exact .refl _ _)), ⟨rfl, trivial⟩, .refl _, ⟨by omega, hq.trans hst⟩, by omega⟩
   · rw [if_pos h0] at hst
     rw [decide_eq_true h0] at hcl
     rw [hq, hst]
     generalize nth l k = z at *
     refine uS rfl fun K hK => ?_
     refine jt rfl rfl (by omega) ?_
     refine wN hK ?_; clear hK
     refine WC.seq fun K hK => ?_
     refine uT rfl rfl ?_
     refine WC.skip ?_
     (refine hK _ _ ?_; clear hK)
     refine WC.seq fun K hK => ?_
     refine WC.block ?_
     refine uS rfl fun K hK => ?_
     iterate 2 refine jm rfl rfl ?_
     refine wN hK ?_; clear hK
     refine uS rfl fun K hK => ?_
     iterate 3 refine jm rfl rfl ?_
     refine wG rfl rfl (g_indexAddr (sz := 1) rfl (.mk rfl rfl) (.mk rfl rfl) rfl rfl rfl (by omega) (fun _ _ => sl_some hv (by omega))) ?_
     refine jl rfl rfl rfl (rd_sl hv hg) ?_
     refine WL.want rfl (WL1.callVP rfl rfl (.mk rfl rfl) (by first | assumption | rfl) (.cons (.mk (v := .int _ _) rfl rfl) .nil) (fun w hw => hcl w) ?_)
     refine wN hK ?_; clear hK
     refine uT rfl rfl ?_
     refine uS rfl fun K hK => ?_
     iterate 2 refine jm rfl rfl ?_
     refine wN hK ?_; clear hK
     refine WC.ret ?_
     exact fun w' hw' => ⟨rfl, hw'.1⟩
 · obtain rfl : k = l.length := by omega
   rw [Nat.sub_self] at hq
   refine uS rfl fun K hK => ?_
   refine jf rfl rfl (by omega) ?_
   refine wN hK ?_; clear hK
   refine WC.seq fun K hK => ?_
   refine uF rfl rfl ?_
   refine WC.exit ?_
   (clear hK; refine hK _ _ ?_; clear hK)
   refine uS rfl fun K hK => ?_
   refine jm rfl rfl ?_
   refine wN hK ?_; clear hK
   refine WC.ret ?_
   exact fun w' hw' => ⟨by rw [hq]; rfl, hw'.1⟩
def byF (x y z : Nat) : Nat := if x ≠ 0 then x else if y ≠ 0 then y else z
def nrmL (x y z : Nat) : List Nat := if byF x y z = 0 then [x, y, z] else [x * byF x y z % 3, y * byF x y z % 3, z * byF x y z % 3]
abbrev COT : TypeId := 202
def mulP (b : Nat) (l : List Nat) (i : Nat) : List Nat := (List.range 3).map fun q => if q < i then nth l q * b % 3 else nth l q
theorem mulP_set {b i : Nat} {l : List Nat} (h : i < 3) : (mulP b l i).set i (nth l i * b % 3) = mulP b l (i + 1) :=
 list_ext_nth (by rw [List.length_set]; simp [mulP]) fun q hq => by
   have hq3 : q < 3 := by rw [List.length_set] at hq; simpa [mulP] using hq
   have e1 : nth (mulP b l i) q = if q < i then nth l q * b % 3 else nth l q := nth_range _ hq3
   have e2 : nth (mulP b l (i + 1)) q = if q < i + 1 then nth l q * b % 3 else nth l q := nth_range _ hq3
   rw [nth_set_eq (by simpa [mulP] using h), e1, e2]
   by_cases e : q = i
   · subst e; rw [if_pos rfl, if_pos (by omega)]
   · rw [if_neg e]
     by_cases e3 : q < i
     · rw [if_pos e3, if_pos (by omega)]
     · rw [if_neg e3, if_neg (by omega)]
theorem mulP_len (b : Nat) (l : List Nat) (i : Nat) : (mulP b l i).length = 3 := by simp [mulP]
theorem sl3 {w0 w : World} {L : List Asrt} {b : Nat} {e : TypeId} {l : List Nat} (hl : l.length = 3) (hw : H w0 L w) (hm : pt b e (ldv l) ∈ L) : Sl w 1 (.slice (subA ((some (⟨b, 0, none⟩ : Addr)).map (·.add 0)) 3 0 1) 3 3) 3 (ldv l) :=
 Sl.of_ptE (k := 0) (m := 3) (l := 0) (h := 3) hw hm (by omega) (by omega) (by unfold maxLen; omega) (by rw [ldv_len, hl]; omega) rfl (by
   show ((ldv l).drop (0 + 0 * 1)).take ((3 - 0) * 1) = ldv l
   rw [show 0 + 0 * 1 = 0 from rfl, List.drop_zero, List.take_of_length_le (by rw [ldv_len, hl]; omega)])
set_option maxHeartbeats 2000000 in
theorem normal_e {w : World} {bs bf : Nat} (x y z : Nat) (hx : x < 3) (hy : y < 3) (hz : z < 3) (hs : w.cell? ⟨bs, 0, none⟩ = some (bpv bf)) (hf : FldAt w bf) :
   Calls Tryz.prog 167 #[bpv bs, .agg (ldv [x, y, z]).toArray] w fun e w' => e = .returned (.agg (ldv (nrmL x y z)).toArray) ∧ Below w.heap.size w w' := by
 have hnz : ∀ w' (A : Option Addr) c, Sl w' 1 (.slice A 3 c) 3 (ldv [x, y, z]) → _ := fun w' A c h => nzidx_e (n := 3) rfl (by omega) h
 have hi : nzI [x, y, z] 3 = if x ≠ 0 then 0 else if y ≠ 0 then 1 else if z ≠ 0 then 2 else -1 := rfl
 by_cases hb : byF x y z = 0
 · have hx0 : x = 0 := by unfold byF at hb; split at hb <;> simp_all
   have hy0 : y = 0 := by subst hx0; unfold byF at hb; simp at hb; split at hb <;> simp_all
   have hz0 : z = 0 := by subst hx0; subst hy0; unfold byF at hb; simpa using hb
   subst hx0; subst hy0; subst hz0
   rw [hi] at hnz
   refine calls_wcG (args := [bpv bs, .agg (ldv [0, 0, 0]).toArray]) [.cell 4 202] [] Tryz.func167 rfl Tryz.ntmps167 rfl rfl (H.refl _) ?_
   refine uS rfl fun K hK => ?_
   refine WL.want rfl (WL1.box rfl rfl (.mk (v := .agg _) rfl rfl) rfl (fun b3 => ?_))
   refine WL.want rfl (WL1.alloc rfl rfl rfl rfl (fun b4 => ?_))
   refine wN hK ?_; clear hK
   refine uS rfl fun K hK => ?_
   refine wG rfl rfl (g_sliceA (sz := 1) (kl := .i64) (p := 0) (kh := .i64) (q := 0) rfl (.mk rfl rfl) rfl rfl rfl rfl (by omega) (by omega) (fun _ _ => rfl)) ?_
   refine WL.want rfl (WL1.callP rfl rfl rfl (.cons (.mk (v := .slice _ _ _) rfl rfl) (.cons (.mk (v := .func _ _ _) rfl rfl) .nil)) (fun w hw => hnz w _ _ (sl3 rfl hw (by repeat constructor))) ?_)
   refine jm rfl rfl ?_
   refine wN hK ?_; clear hK
   refine WC.seq fun K hK => ?_
   refine uS rfl fun K hK => ?_
   refine jm rfl rfl ?_
   refine jt rfl rfl (by omega) ?_
   refine wN hK ?_; clear hK
   refine uT rfl rfl ?_
   refine uS rfl fun K hK => ?_
   refine wG rfl rfl (g_loadA rfl (.mk rfl rfl) rfl rfl (rdr_pt (cs := ldv [0, 0, 0]) (by repeat constructor) (fun j u h => by rw [Nat.zero_add, Nat.zero_add]; exact h))) ?_
   refine WL.want rfl (WL1.storeAll rfl rfl (.mk rfl rfl) (.mk rfl rfl) rfl (all1 rfl) (by first | rfl | (simp [Blk.len]; done)) (.head) ?_)
   refine wN hK ?_; clear hK
   refine WC.ret ?_
   exact ⟨_, .cell rfl rfl rfl rfl (by repeat constructor) .nil, fun w' hw' => ⟨rfl, hw'.1⟩⟩
 · obtain ⟨i, hi3, hni, hnb⟩ : ∃ i : Nat, i < 3 ∧ nzI [x, y, z] 3 = (i : Int) ∧ nth [x, y, z] i = byF x y z := by
     rw [hi]
     by_cases h1 : x = 0
     · subst h1
       by_cases h2 : y = 0
       · subst h2
         have hz0 : z ≠ 0 := fun h => hb (by subst h; rfl)
         exact ⟨2, by omega, (if_pos hz0 : (if z ≠ 0 then (2 : Int) else -1) = 2), rfl⟩
       · exact ⟨1, by omega, (if_pos h2 : (if y ≠ 0 then (1 : Int) else if z ≠ 0 then (2 : Int) else -1) = 1), (if_pos h2 : (if y ≠ 0 then y else z) = y).symm⟩
     · exact ⟨0, by omega, if_pos h1, (if_pos h1 : (if x ≠ 0 then x else if y ≠ 0 then y else z) = x).symm⟩
   have hnl : nrmL x y z = mulP (byF x y z) [x, y, z] 3 := by unfold nrmL; rw [if_neg hb]; rfl
   rw [hni] at hnz
   have hl3 : ([x, y, z] : List Nat).length = 3 := rfl
   have hle : ∀ q, q < 3 → nth [x, y, z] q < 3 := fun q hq => by
     obtain rfl | rfl | rfl : q = 0 ∨ q = 1 ∨ q = 2 := by omega
     · exact hx
     · exact hy
     · exact hz
   have hb3 : byF x y z < 3 := by rw [← hnb]; exact hle i hi3
   have hm0 : mulP (byF x y z) [x, y, z] 0 = [x, y, z] := rfl
   rw [hnl]
   clear hi hnl
   have hgi := ldv_get (ld := [x, y, z]) (k := i) hi3
   rw [hnb] at hgi
   have hgi2 : (ldv [x, y, z])[0 + (0 + i * 1)]? = some (iv (byF x y z : Nat)) := by rw [show 0 + (0 + i * 1) = i * 1 from by omega]; exact hgi
   generalize byF x y z = bb at *
   generalize [x, y, z] = l at *
   have hin := fun w' (hb' : Below w.heap.size w w') => finv_e bb (by omega) (hf.below hb')
   have hml := fun k (hk : k < 3) w' (hb' : Below w.heap.size w w') => fmul_e (nth l k) bb (hle k hk) hb3 (hf.below hb')
   have hdl : (ldv l).length = 3 := by rw [ldv_len, hl3]
   refine calls_wcG (args := [bpv bs, .agg (ldv l).toArray]) [.cell 4 202] [] Tryz.func167 rfl Tryz.ntmps167 rfl rfl (H.refl _) ?_
   refine uS rfl fun K hK => ?_
   refine WL.want rfl (WL1.box rfl rfl (.mk (v := .agg _) rfl rfl) rfl (fun b3 => ?_))
   refine WL.want rfl (WL1.alloc rfl rfl rfl rfl (fun b4 => ?_))
   refine wN hK ?_; clear hK
   refine uS rfl fun K hK => ?_
   refine wG rfl rfl (g_sliceA (sz := 1) (kl := .i64) (p := 0) (kh := .i64) (q := 0) rfl (.mk rfl rfl) rfl rfl rfl rfl (by omega) (by omega) (fun _ _ => rfl)) ?_
   refine WL.want rfl (WL1.callP rfl rfl rfl (.cons (.mk (v := .slice _ _ _) rfl rfl) (.cons (.mk (v := .func _ _ _) rfl rfl) .nil)) (fun w hw => hnz w _ _ (sl3 hl3 hw (by repeat constructor))) ?_)
   refine jm rfl rfl ?_
   refine wN hK ?_; clear hK
   refine WC.seq fun K hK => ?_
   refine uS rfl fun K hK => ?_
   refine jm rfl rfl ?_
   refine jf rfl rfl (by omega) ?_
   refine wN hK ?_; clear hK
   refine uF rfl rfl ?_
   refine WC.skip ?_
   (refine hK _ _ ?_; clear hK)
   refine WC.seq fun K hK => ?_
   refine WC.quiet rfl (by kernel_rfl) (by decide +kernel) ?_
   refine yp rfl rfl rfl ?_
   refine WQ.want rfl (WQ1.give rfl (g_nilCheck rfl (.mk rfl rfl) (fun _ _ => rfl)) ?_)
   refine ya 0 rfl rfl rfl rfl ?_
   refine yl rfl rfl rfl (rd_wb hs) ?_
   refine ym rfl rfl ?_
   refine WQ.want rfl (WQ1.give rfl (g_indexAddrA (sz := 1) rfl (.mk rfl rfl) (.mk rfl rfl) rfl rfl rfl (by omega) (fun _ _ => rfl)) ?_)
   refine yl rfl rfl rfl (rd_pt (by repeat constructor) hgi2) ?_
   refine WQ.want rfl (WQ1.callP rfl rfl rfl (.cons (.mk (v := cellPtr _ _) rfl rfl) (.cons (.mk (v := .int _ _) rfl rfl) .nil)) (fun w hw => hin w hw.1) ?_)
   refine ym rfl rfl ?_
   refine WQ.nil ?_
   (refine hK _ _ ?_; clear hK)
   refine WC.seq fun K hK => ?_
   refine uS rfl fun K hK => ?_
   refine jm rfl rfl ?_
   refine wN hK ?_; clear hK
   refine WC.block ?_
   refine WC.loop (68717379712) (fun k : Nat => [(21, iv k)]) (fun k => [pt b4 COT (ldv [0, 0, 0]), pt b3 COT (ldv (mulP bb l k))]) (fun k => k ≤ 3) (fun k => 3 - k) 0 ⟨rfl, trivial⟩ (by rw [hm0]; exact (sB (by repeat constructor))) (by omega) ?_
   intro k U hk
   by_cases hlt : k < 3
   · have hg := ldv_get (ld := mulP bb l k) (k := k) (by rw [mulP_len]; exact hlt)
     have hg2 : (ldv (mulP bb l k))[0 + (0 + k * 1)]? = some (iv (nth l k : Nat)) := by rw [show 0 + (0 + k * 1) = k * 1 from by omega, hg, show nth (mulP bb l k) k = nth l k from by rw [show nth (mulP bb l k) k = if k < k then nth l k * bb % 3 else nth l k from nth_range _ hlt, if_neg (Nat.lt_irrefl k)]]
     have hst : (ldv (mulP bb l k)).set (0 + (0 + k * 1)) (iv (nth l k * bb % 3 : Nat)) = ldv (mulP bb l (k + 1)) := by rw [show 0 + (0 + k * 1) = k from by omega, ldv_set, mulP_set hlt]
     refine uS rfl fun K hK => ?_
     refine jt rfl rfl (by omega) ?_
     refine wN hK ?_; clear hK
     refine WC.seq fun K hK => ?_
     refine uT rfl rfl ?_
     refine WC.skip ?_
     (refine hK _ _ ?_; clear hK)
     refine WC.seq fun K hK => ?_
     refine WC.block ?_
     refine uS rfl fun K hK => ?_
     iterate 2 refine jm rfl rfl ?_
     refine wN hK ?_; clear hK
     refine WC.split 11 rfl (by kernel_rfl) (by decide +kernel) ?_
     refine ym rfl rfl ?_
     refine yp rfl rfl rfl ?_
     refine WQ.want rfl (WQ1.give rfl (g_nilCheck rfl (.mk rfl rfl) (fun _ _ => rfl)) ?_)
     refine ya 0 rfl rfl rfl rfl ?_
     refine yl rfl rfl rfl (rd_wb hs) ?_
     refine ym rfl rfl ?_
     refine WQ.want rfl (WQ1.give rfl (g_indexAddrA (sz := 1) rfl (.mk rfl rfl) (.mk rfl rfl) rfl rfl rfl (by omega) (fun _ _ => rfl)) ?_)
     refine yl rfl rfl rfl (rd_pt (by repeat constructor) hg2) ?_
     refine ym rfl rfl ?_
     refine WQ.want rfl (WQ1.callP rfl rfl rfl (.cons (.mk (v := cellPtr _ _) rfl rfl) (.cons (.mk (v := .int _ _) rfl rfl) (.cons (.mk (v := .int _ _) rfl rfl) .nil))) (fun w hw => hml k hlt w hw.1) ?_)
     refine WQ.want rfl (WQ1.give rfl (g_indexAddrA (sz := 1) rfl (.mk rfl rfl) (.mk rfl rfl) rfl rfl rfl (by omega) (fun _ _ => rfl)) ?_)
     refine WQ.nil ?_
     refine WY.one 11 (by decide +kernel) rfl rfl ?_
     refine WL1.store1 rfl rfl (.mk rfl rfl) (.mk (v := .int _ _) rfl rfl) rfl rfl (by rw [ldv_len, mulP_len]; omega) (.tail .head) ?_
     refine WL.nil ?_
     refine WY.done (by decide +kernel) ?_
     (refine hK _ _ ?_; clear hK)
     refine WC.region rfl ?_
     refine ji rfl rfl (by omega) ?_
     refine jm rfl rfl ?_
     refine WL.nil ?_
     exact ⟨k + 1, (by repeat (first | with_reducible exact .refl _ _ | refine .set rfl ?_ | refine .put rfl ?_ | refine .sets rfl ?_ | refine .hav rfl ?_ | exact .refl _ _)), ⟨rfl, trivial⟩, (by rw [← hst]; exact (sB (by repeat constructor))), by omega, by omega⟩
   · obtain rfl : k = 3 := by omega
     refine uS rfl fun K hK => ?_
     refine jf rfl rfl (by omega) ?_
     refine wN hK ?_; clear hK
     refine WC.seq fun K hK => ?_
     refine uF rfl rfl ?_
     refine WC.exit ?_
     (clear hK; refine hK _ _ ?_; clear hK)
     refine uS rfl fun K hK => ?_
     refine wG rfl rfl (g_loadA rfl (.mk rfl rfl) rfl rfl (rdr_pt (cs := ldv (mulP bb l 3)) (by repeat constructor) (fun j u h => by rw [Nat.zero_add, Nat.zero_add]; exact h))) ?_
     refine WL.want rfl (WL1.storeAll rfl rfl (.mk rfl rfl) (.mk rfl rfl) rfl (all1 rfl) (by first | rfl | (simp [Blk.len]; done)) (.head) ?_)
     refine wN hK ?_; clear hK
     refine WC.ret ?_
     exact ⟨_, .cell rfl rfl rfl rfl (by repeat constructor) .nil, fun w' hw' => ⟨rfl, hw'.1⟩⟩
def dS (a b : List Nat) : Nat → Nat
 | 0 => 0
 | k + 1 => (dS a b k % 3 + nth a k * nth b k % 3 % 3) % 3
theorem dS_lt (a b : List Nat) : ∀ k, dS a b k < 3
 | 0 => by show 0 < 3; omega
 | k + 1 => by show (_ % 3) < 3; omega
set_option maxHeartbeats 1000000 in
theorem dot_e {w : World} {bs bf : Nat} (a b : List Nat) (ha : a.length = 3) (hb : b.length = 3) (ha3 : ∀ q, q < 3 → nth a q < 3) (hb3 : ∀ q, q < 3 → nth b q < 3) (hs : w.cell? ⟨bs, 0, none⟩ = some (bpv bf)) (hf : FldAt w bf) :
   Calls Tryz.prog 126 #[bpv bs, .agg (ldv a).toArray, .agg (ldv b).toArray] w fun e w' => e = .returned (iv (dS a b 3 : Nat)) ∧ Below w.heap.size w w' := by
 have hml := fun k (hk : k < 3) w' (hb' : Below w.heap.size w w') => fmul_e (nth a k) (nth b k) (ha3 k hk) (hb3 k hk) (hf.below hb')
 have had := fun k w' (hb' : Below w.heap.size w w') => fadd_e (dS a b k) (nth a k * nth b k % 3) (dS_lt a b k) (Nat.mod_lt _ (by omega)) (hf.below hb')
 have hda : (ldv a).length = 3 := by rw [ldv_len, ha]
 have hdb : (ldv b).length = 3 := by rw [ldv_len, hb]
 refine calls_wc (args := [bpv bs, .agg (ldv a).toArray, .agg (ldv b).toArray]) [6] [] Tryz.func126 rfl Tryz.ntmps126 rfl rfl rfl rfl (H.refl _) ?_
 refine uS rfl fun K hK => ?_
 refine WL.want rfl (WL1.box rfl rfl (.mk (v := .agg _) rfl rfl) rfl (fun b4 => ?_))
 refine WL.want rfl (WL1.box rfl rfl (.mk (v := .agg _) rfl rfl) rfl (fun b5 => ?_))
 refine jm rfl rfl ?_
 refine wN hK ?_; clear hK
 refine uS rfl fun K hK => ?_
 refine jm rfl rfl ?_
 refine wN hK ?_; clear hK
 refine WC.seq fun K hK => ?_
 refine uS rfl fun K hK => ?_
 refine jm rfl rfl ?_
 refine wN hK ?_; clear hK
 refine WC.block ?_
 refine WC.loop (1073741696) (fun k : Nat => [(9, iv k), (7, iv (dS a b k : Nat))]) (fun _ => [pt b5 COT (ldv b), pt b4 COT (ldv a)]) (fun k => k ≤ 3) (fun k => 3 - k) 0 ⟨rfl, rfl, trivial⟩ (sB (by repeat constructor)) (by omega) ?_
 intro k U hk
 by_cases hlt : k < 3
 · have hga := ldv_get (ld := a) (k := k) (by omega)
   have hgb := ldv_get (ld := b) (k := k) (by omega)
   have hga2 : (ldv a)[0 + (0 + k * 1)]? = some (iv (nth a k : Nat)) := by rw [show 0 + (0 + k * 1) = k * 1 from by omega, hga]
   have hgb2 : (ldv b)[0 + (0 + k * 1)]? = some (iv (nth b k : Nat)) := by rw [show 0 + (0 + k * 1) = k * 1 from by omega, hgb]
   refine uS rfl fun K hK => ?_
   refine jt rfl rfl (by omega) ?_
   refine wN hK ?_; clear hK
   refine WC.seq fun K hK => ?_
   refine uT rfl rfl ?_
   refine WC.skip ?_
   (refine hK _ _ ?_; clear hK)
   refine WC.seq fun K hK => ?_
   refine WC.block ?_
   refine uS rfl fun K hK => ?_
   iterate 2 refine jm rfl rfl ?_
   refine wN hK ?_; clear hK
   refine WC.quiet rfl (by kernel_rfl) (by decide +kernel) ?_
   refine yp rfl rfl rfl ?_
   refine WQ.want rfl (WQ1.give rfl (g_nilCheck rfl (.mk rfl rfl) (fun _ _ => rfl)) ?_)
   refine ya 0 rfl rfl rfl rfl ?_
   refine yl rfl rfl rfl (rd_wb hs) ?_
   refine ym rfl rfl ?_
   refine yp rfl rfl rfl ?_
   refine WQ.want rfl (WQ1.give rfl (g_nilCheck rfl (.mk rfl rfl) (fun _ _ => rfl)) ?_)
   refine ya 0 rfl rfl rfl rfl ?_
   refine yl rfl rfl rfl (rd_wb hs) ?_
   refine ym rfl rfl ?_
   refine WQ.want rfl (WQ1.give rfl (g_indexAddrA (sz := 1) rfl (.mk rfl rfl) (.mk rfl rfl) rfl rfl rfl (by omega) (fun _ _ => rfl)) ?_)
   refine yl rfl rfl rfl (rd_pt (by repeat constructor) hga2) ?_
   refine ym rfl rfl ?_
   refine WQ.want rfl (WQ1.give rfl (g_indexAddrA (sz := 1) rfl (.mk rfl rfl) (.mk rfl rfl) rfl rfl rfl (by omega) (fun _ _ => rfl)) ?_)
   refine yl rfl rfl rfl (rd_pt (by repeat constructor) hgb2) ?_
   refine WQ.want rfl (WQ1.callP rfl rfl rfl (.cons (.mk (v := cellPtr _ _) rfl rfl) (.cons (.mk (v := .int _ _) rfl rfl) (.cons (.mk (v := .int _ _) rfl rfl) .nil))) (fun w hw => hml k hlt w hw.1) ?_)
   refine WQ.want rfl (WQ1.callP rfl rfl rfl (.cons (.mk (v := cellPtr _ _) rfl rfl) (.cons (.mk (v := .int _ _) rfl rfl) (.cons (.mk (v := .int _ _) rfl rfl) .nil))) (fun w hw => had k w hw.1) ?_)
   refine ym rfl rfl ?_
   refine WQ.nil ?_
   (refine hK _ _ ?_; clear hK)
   refine WC.region rfl ?_
   refine ji rfl rfl (by omega) ?_
   refine jm rfl rfl ?_
   refine WL.nil ?_
   exact ⟨k + 1, (by repeat (first | with_reducible exact .refl _ _ | refine .set rfl ?_ | refine .put rfl ?_ | refine .sets rfl ?_ | refine .hav rfl ?_ | exact .refl _ _)), ⟨rfl, rfl, trivial⟩, (sB (by repeat constructor)), by omega, by omega⟩
 · obtain rfl : k = 3 := by omega
   refine uS rfl fun K hK => ?_
   refine jf rfl rfl (by omega) ?_
   refine wN hK ?_; clear hK
   refine WC.seq fun K hK => ?_
   refine uF rfl rfl ?_
   refine WC.exit ?_
   (clear hK; refine hK _ _ ?_; clear hK)
   refine uS rfl fun K hK => ?_
   iterate 2 refine jm rfl rfl ?_
   refine wN hK ?_; clear hK
   refine WC.ret ?_
   exact fun w' hw' => ⟨rfl, hw'.1⟩
end Go.Proofs.YtdcijljfgcjelaaGreat
namespace Go.Proofs.YtdcijljfgcjelaaGreat
set_option maxRecDepth 20000
open Go.RowKit Go.ChangeMaps Go.MapKept
section
def selfR (v : Value) : Option (DataW Value × List MemPlace) := some (.held v, [])
theorem run_zero {P : Program} {t : TypeId} {z : Value} (h : (P.info? t).map (·.zero) = some (some z)) (w : World) : (zeroValue t).run P w = .ok z w := by
 cases hi : P.info? t with
 | none => rw [hi] at h; cases h
 | some i =>
   rw [hi] at h
   have hz : i.zero = some z := by simpa using h
   simp [zeroValue, typeInfo, hi, hz]
def mp (P : Program) (k : TypeId) (b n : Nat) (D : DataW Value) : Asrt where
 foot i := i = b
 ok w := w.ownsMap P k selfR b n D
 loc w w' h hw := by
   obtain ⟨es, clock, hb, r⟩ := hw
   exact ⟨es, clock, (h b rfl).trans hb, r⟩
theorem H.newMap {P : Program} {w0 w : World} {L : List Asrt} (k : TypeId) (h : H w0 L w) : H w0 (mp P k w.heap.size 0 (.map []) :: L) (w.alloc (.map #[] 0)) := by
 have hb : Below w.heap.size w (w.alloc (.map #[] 0)) := below_alloc w _
 have h' := h.below hb
 refine ⟨h'.1, World.ownsMap_made w P k selfR, fun b hb' => ?_, fun C hC b hb' hc => ?_, h'.2⟩
 · have hb'' : b = w.heap.size := hb'
   subst hb''
   exact ⟨h.1.size, by simp⟩
 · have hb'' : b = w.heap.size := hb'
   subst hb''
   have := ((h.2.in_ C hC).2 _ hc).2
   omega
end
def rgA (P : Program) (k : TypeId) (b r c : Nat) (D : DataW Value) (left : Lit → Bool) (cnt : Nat) : Asrt where
 foot i := i = b ∨ i = r
 ok w := w.ranges P k selfR b r c D left cnt
 loc w w' h hw := by
   obtain ⟨es, clock, since, seen, c0, hb, h1, h2, h3, hr, rest⟩ := hw
   exact ⟨es, clock, since, seen, c0, (h b (.inl rfl)).trans hb, h1, h2, h3, (h r (.inr rfl)).trans hr, rest⟩
theorem entry_loc {P : Program} {w w' : World} {r b since c0 clock : Nat} {seen : Array Nat} {es : Array MapEntry} {v : Value} (hr : w.heap[r]? = some (.mapIter (some b) since seen c0)) (hb : w.heap[b]? = some (.map es clock)) (hr' : w'.heap[r]? = some (.mapIter (some b) since seen c0)) (hb' : w'.heap[b]? = some (.map es clock))
   (h : (Instr.entry (.pointer (some ⟨r, 0, none⟩))).run P w = .ok v w) : (Instr.entry (.pointer (some ⟨r, 0, none⟩))).run P w' = .ok v w' := by
 simp only [Instr.entry, getObj, Sem.run_bind, Sem.run, hr, hr', Result.andThen] at h ⊢
 cases hs : seen.back? with
 | none => simp [hs, stuck] at h
 | some st =>
   simp only [hs, Sem.run_bind, Sem.run, hb, hb', Result.andThen] at h ⊢
   by_cases hc : (clock != c0) = true
   · rw [if_pos hc] at h; simp [unsupported] at h
   · rw [if_neg hc] at h ⊢
     cases hf : es.find? (fun x => x.born == st) with
     | none => simp only [hf] at h; simp [unsupported] at h
     | some e => simp only [hf] at h ⊢; simpa using h
def rgE (P : Program) (k : TypeId) (b r c : Nat) (D : DataW Value) (left : Lit → Bool) (cnt : Nat) (key v : Value) : Asrt where
 foot i := i = b ∨ i = r
 ok w := w.ranges P k selfR b r c D left cnt ∧ (Instr.entry (.pointer (some ⟨r, 0, none⟩))).run P w = .ok (.tuple #[key, v]) w
 loc w w' h hw := by
   obtain ⟨hw, hen⟩ := hw
   obtain ⟨es, clock, since, seen, c0, hb, h1, h2, h3, hr, rest⟩ := hw
   exact ⟨⟨es, clock, since, seen, c0, (h b (.inl rfl)).trans hb, h1, h2, h3, (h r (.inr rfl)).trans hr, rest⟩, entry_loc hr hb ((h r (.inr rfl)).trans hr) ((h b (.inl rfl)).trans hb) hen⟩
section
variable {P : Program} {n : Fr} {w0 : World} {ops : Array Oper} {K : Post} {o : Oper} {rest : List Oper} {E : Env} {L : List Asrt}
theorem WL1.makeMap {t k : TypeId} {d : Nat} (ho : o.op = .makeMap t none) (hd : o.dst = some d)
   (h : ∀ b, WL P n w0 ops K rest (E.set d (.map (some b))) (mp P k b 0 (.map []) :: L)) : WL1 P n w0 ops K o rest E L := fun w hw Q hQ K' hK => by
 unfold Oper.wp execOp
 simp only [ho, Option.map_none, run_makeMap, Sem.run_bind, Sem.run, Sem.run_pure, Result.andThen_ok]
 show K' _ _
 rw [actOf_put, hd]
 exact hK _ _ (h w.heap.size _ (hw.newMap k) Q hQ)
open Go.Maps (Keyed) in
theorem WL1.mapUpdate {t k e : TypeId} {m kx x : Operand} {b c : Nat} {D : DataW Value} {key val : Value} {kl : Lit} {L' : List Asrt} (ho : o.op = .mapUpdate t m kx x) (hd : o.dst = none) (hm : Ev n E m (.map (some b))) (hk : Ev n E kx key) (hx : Ev n E x val)
   (K0 : Keyed P k) (ht : P.underlying t = some (.map k e)) (hc : c < maxLen) (hkey : keyOf P k key = some kl) (hs : Swap (mp P k b c D) (mp P k b (c + 1) (D.put kl (.held val))) L L') (h : WL P n w0 ops K rest E L') : WL1 P n w0 ops K o rest E L := fun w hw Q hQ K' hK => by
 have hown : w.ownsMap P k selfR b c D := (hw.2.in_ _ hs.mem).1
 obtain ⟨w', hrun, hown', es, clock, es', clock', hb, rfl⟩ := hown.store K0 ht hc (d := .held val) (ps := []) hkey rfl
 unfold Ev at hm hk hx
 unfold Oper.wp execOp
 simp only [ho, hm, hk, hx, Sem.run_bind, Sem.run_pure, Result.andThen_ok, hrun]
 show K' _ _
 rw [actOf_put, hd]
 refine hK _ _ (h _ ?_ Q hQ)
 exact hw.swapped hs (by simp [setBlock]) rfl rfl rfl (fun _ h => h) (fun i hi => heap_setBlock_other hb _ hi) hown'
open Go.Maps (Keyed) in
theorem g_look {t k e : TypeId} {m kx : Operand} {b c : Nat} {D : DataW Value} {key z v : Value} {kl : Lit} (hm : mp P k b c D ∈ L) (ho : o.op = .lookup t m kx false) (hx : Ev n E m (.map (some b))) (hk : Ev n E kx key)
   (K0 : Keyed P k) (ht : P.underlying t = some (.map k e)) (hz : ∀ w, (zeroValue e).run P w = .ok z w) (hkey : keyOf P k key = some kl) (hv : D.atKey kl (.held z) = .held v) : Gives P n (H w0 L) o E v := fun w hw => by
 have hown : w.ownsMap P k selfR b c D := (hw.2.in_ _ hm).1
 obtain ⟨u, ps, hrun, hu⟩ := hown.lookup K0 ht (hz w) (zd := .held z) (zp := []) rfl hkey
 rw [hv] at hu
 have : u = v := by simpa [selfR] using congrArg (fun x => x.map Prod.fst) hu
 subst this
 unfold Ev at hx hk; unfold execOp
 simp only [ho, hx, hk, Sem.run_bind, Sem.run_pure, Result.andThen_ok, hrun]
end
end Go.Proofs.YtdcijljfgcjelaaGreat
namespace Go.Proofs.YtdcijljfgcjelaaGreat
set_option maxRecDepth 20000
open Go.RowKit
attribute [local irreducible] Calls
theorem eqv_co (x y z x' y' z' : Nat) (p : Bool) (h : (decide (x = x') && decide (y = y') && decide (z = z')) = p) : EqV Tryz.prog COT (.agg (ldv [x, y, z]).toArray) (.agg (ldv [x', y', z']).toArray) p := by
 refine EqV.arr (m := 3) (e := 3) (k0 := .i64) (by kernel_rfl) rfl (by kernel_rfl) (by kernel_rfl) (fun j hj => ?_) ?_
 · obtain rfl | rfl | rfl : j = 0 ∨ j = 1 ∨ j = 2 := by omega
   · exact ⟨_, _, rfl, rfl, rfl⟩
   · exact ⟨_, _, rfl, rfl, rfl⟩
   · exact ⟨_, _, rfl, rfl, rfl⟩
 · have hc : ∀ a b : Nat, ceq (iv a) (iv b) = decide (a = b) := fun a b => by
     by_cases e : a = b
     · subst e; rw [decide_eq_true rfl]; show (_ == _) = true; simp
     · rw [decide_eq_false e]; show (_ == _) = false; simp; omega
   rw [← h, show (List.range 3) = [0, 1, 2] from rfl]
   show (ceq (iv x) (iv x') && (ceq (iv y) (iv y') && (ceq (iv z) (iv z') && true))) = _
   rw [hc, hc, hc, Bool.and_true, Bool.and_assoc]
theorem nrm_ok (x y z : Nat) (hx : x < 2) (hy : y < 3) (hz : z < 3) (h : okN x y z = true) : nrmL x y z = [x, y, z] ∧ (decide (x = 0) && decide (y = 0) && decide (z = 0)) = false := by
 obtain rfl | rfl : x = 0 ∨ x = 1 := by omega
 all_goals obtain rfl | rfl | rfl : y = 0 ∨ y = 1 ∨ y = 2 := by omega
 all_goals obtain rfl | rfl | rfl : z = 0 ∨ z = 1 ∨ z = 2 := by omega
 all_goals first | exact absurd h (by decide) | exact ⟨rfl, rfl⟩
theorem nrm_no (x y z : Nat) (hx : x < 2) (hy : y < 3) (hz : z < 3) (h : okN x y z = false) : (x = 0 ∧ y = 0 ∧ z = 0) ∨ (decide (nth (nrmL x y z) 0 = x) && decide (nth (nrmL x y z) 1 = y) && decide (nth (nrmL x y z) 2 = z)) = false := by
 obtain rfl | rfl : x = 0 ∨ x = 1 := by omega
 all_goals obtain rfl | rfl | rfl : y = 0 ∨ y = 1 ∨ y = 2 := by omega
 all_goals obtain rfl | rfl | rfl : z = 0 ∨ z = 1 ∨ z = 2 := by omega
 all_goals first | exact absurd h (by decide) | exact .inl ⟨rfl, rfl, rfl⟩ | exact .inr rfl
theorem nrm_3 (x y z : Nat) : nrmL x y z = [nth (nrmL x y z) 0, nth (nrmL x y z) 1, nth (nrmL x y z) 2] := by
 unfold nrmL
 split <;> rfl
theorem laidP : laidOutB Tryz.prog = true := by kernel_rfl
theorem kC : Maps.Keyed Tryz.prog COT := Maps.Keyed.of_law (deep_law_laid laidP (m := 4) (by omega) (of_decide_eq_true (by kernel_rfl)) (by kernel_rfl) (by kernel_rfl))
theorem keyC (x y z : Nat) (h : x < 2) (h2 : y < 3) (h3 : z < 3) : ∃ kl, keyOf Tryz.prog COT (.agg (ldv [x, y, z]).toArray) = some kl := by
 have key : ∀ (x y z : Nat), (keyOf Tryz.prog COT (.agg (ldv [x, y, z]).toArray)).isSome = true → ∃ kl, keyOf Tryz.prog COT (.agg (ldv [x, y, z]).toArray) = some kl := fun x y z h => Option.isSome_iff_exists.1 h
 refine key x y z ?_
 obtain rfl | rfl : x = 0 ∨ x = 1 := by omega
 all_goals obtain rfl | rfl | rfl : y = 0 ∨ y = 1 ∨ y = 2 := by omega
 all_goals obtain rfl | rfl | rfl : z = 0 ∨ z = 1 ∨ z = 2 := by omega
 all_goals kernel_rfl
theorem elPC : Elem Tryz.prog 197 COT (.agg #[iv 0, iv 0, iv 0]) 3 24 := ⟨by kernel_rfl, by kernel_rfl, rfl, by decide⟩
abbrev SPT : TypeId := 200
def plL (bs bf bm N : Nat) (D S Pp : Option Addr × Nat) (mD : DataW Value) (sm pr : List IRow) : List Asrt :=
 pt bs SPT [bpv bf, .slice D.1 (coL N).length D.2, .map (some bm)] :: vec D.1 (coL N).length D.2 COT 3 (cc (coL N)) :: mp Tryz.prog COT bm (coL N).length mD :: pt bf FT [iv 3, iv 3, .slice S.1 3 S.2, .slice Pp.1 3 Pp.2] :: vec S.1 3 S.2 29 1 (sm.map IRow.v) :: rowsI sm :: vec Pp.1 3 Pp.2 29 1 (pr.map IRow.v) :: rowsI pr :: []
set_option maxHeartbeats 4000000 in
theorem open3_n (w : World) : Calls Tryz.prog 125 #[iv 3] w fun e w' => ∃ u M, e = .returned u ∧ H w M w' ∧ ∃ bs bf bm D S Pp mD sm pr, ils sm = smT 3 ∧ ils pr = prT 3 ∧ u = .tuple #[bpv bs, iv 0] ∧ M = plL bs bf bm 18 D S Pp mD sm pr := by
 refine calls_wc (args := [iv 3]) [2, 3] [] Tryz.func125 rfl Tryz.ntmps125 rfl rfl rfl rfl (H.refl _) ?_
 refine uS rfl fun K hK => ?_
 iterate 2 refine jm rfl rfl ?_
 refine wN hK ?_; clear hK
 refine uS rfl fun K hK => ?_
 refine jm rfl rfl ?_
 (refine WL.want rfl (WL1.callN rfl rfl rfl (.cons (.mk (v := .int _ _) rfl rfl) .nil) (fun w hw => sfnew_n w) ?_); rintro _ _ ⟨bf, S, cS, Pp, cP, sm, pr, e1, e2, rfl, rfl⟩)
 iterate 3 refine jm rfl rfl ?_
 refine jp rfl rfl rfl ?_
 refine jm rfl rfl ?_
 refine wN hK ?_; clear hK
 refine WC.seq fun K hK => ?_
 refine uS rfl fun K hK => ?_
 refine jm rfl rfl ?_
 refine jf rfl rfl (by omega) ?_
 refine wN hK ?_; clear hK
 refine uF rfl rfl ?_
 refine WC.skip ?_
 (refine hK _ _ ?_; clear hK)
 refine WC.seq fun K hK => ?_
 refine uS rfl fun K hK => ?_
 iterate 2 refine jm rfl rfl ?_
 refine ji rfl rfl (by omega) ?_
 refine jm rfl rfl ?_
 iterate 2 refine ji rfl rfl (by omega) ?_
 refine jf rfl rfl (by omega) ?_
 refine wN hK ?_; clear hK
 refine uF rfl rfl ?_
 refine WC.skip ?_
 (refine hK _ _ ?_; clear hK)
 refine uS rfl fun K hK => ?_
 refine jp rfl rfl rfl ?_
 refine WL.want rfl (WL1.makeMap (k := COT) rfl rfl (fun b26 => ?_))
 refine wG rfl rfl (g_build (cs := [bpv bf, .slice none 0 0, .map (some b26)]) rfl rfl rfl rfl (.cons (.mk (v := bpv bf) rfl rfl) (.cons (.mk (v := .map _) rfl rfl) .nil)) (by simp only [List.all_cons, List.all_nil, cellPtr_one, Bool.and_true] <;> rfl) rfl rfl) ?_
 refine WL.want rfl (WL1.box rfl rfl (.mk (v := .agg _) rfl rfl) rfl (fun b28 => ?_))
 refine jp rfl rfl rfl ?_
 refine wN hK ?_; clear hK
 refine WC.seq fun K hK => ?_
 refine uS rfl fun K hK => ?_
 refine jm rfl rfl ?_
 refine wN hK ?_; clear hK
 refine WC.block ?_
 refine WC.nilvec COT 3 ?_
 refine WC.loopI3 (151115727451828109969280) (fun (x : Nat) (D : Option Addr × Nat) (mD : DataW Value) => [(29, iv x)]) (fun x D mD => plL b28 bf b26 (9 * x) D (S, cS) (Pp, cP) mD sm pr) (fun x _ _ => x ≤ 2) (fun x _ _ => 2 - x) 0 (none, 0) (.map []) ⟨rfl, trivial⟩ ?_ (by omega) ?_
 · exact Imp.pick (by repeat constructor) (Imp.pick (by repeat constructor) (Imp.pick (by repeat constructor) (Imp.pick (by repeat constructor) (Imp.pick (by repeat constructor) (Imp.pick (by repeat constructor) (Imp.pick (by repeat constructor) (Imp.pick (by repeat constructor) (Imp.nil _))))))))
 rintro x ⟨A, c⟩ mD U hx
 by_cases hx3 : x < 2
 · refine uS rfl fun K hK => ?_
   refine jt rfl rfl (by omega) ?_
   refine wN hK ?_; clear hK
   refine WC.seq fun K hK => ?_
   refine uT rfl rfl ?_
   refine WC.skip ?_
   (refine hK _ _ ?_; clear hK)
   refine WC.seq fun K hK => ?_
   refine WC.block ?_
   refine uS rfl fun K hK => ?_
   iterate 2 refine jm rfl rfl ?_
   refine wN hK ?_; clear hK
   refine uS rfl fun K hK => ?_
   iterate 2 refine jm rfl rfl ?_
   refine wN hK ?_; clear hK
   refine WC.block ?_
   refine WC.loopI3 (75557863725905733486336) (fun (y : Nat) (D : Option Addr × Nat) (mD : DataW Value) => [(33, iv y)]) (fun y D mD => plL b28 bf b26 (9 * x + 3 * y) D (S, cS) (Pp, cP) mD sm pr) (fun y _ _ => y ≤ 3) (fun y _ _ => 3 - y) 0 (A, c) mD ⟨rfl, trivial⟩ (Imp.refl _) (by omega) ?_
   rintro y ⟨A, c⟩ mD U2 hy
   by_cases hy3 : y < 3
   · refine uS rfl fun K hK => ?_
     refine jt rfl rfl (by omega) ?_
     refine wN hK ?_; clear hK
     refine WC.seq fun K hK => ?_
     refine uT rfl rfl ?_
     refine WC.skip ?_
     (refine hK _ _ ?_; clear hK)
     refine WC.seq fun K hK => ?_
     refine WC.block ?_
     refine uS rfl fun K hK => ?_
     iterate 2 refine jm rfl rfl ?_
     refine wN hK ?_; clear hK
     refine uS rfl fun K hK => ?_
     iterate 2 refine jm rfl rfl ?_
     refine wN hK ?_; clear hK
     refine WC.block ?_
     refine WC.loopI3 (37778931862819722757632) (fun (z : Nat) (D : Option Addr × Nat) (mD : DataW Value) => [(37, iv z)]) (fun z D mD => plL b28 bf b26 (9 * x + 3 * y + z) D (S, cS) (Pp, cP) mD sm pr) (fun z _ _ => z ≤ 3) (fun z _ _ => 3 - z) 0 (A, c) mD ⟨rfl, trivial⟩ (Imp.refl _) (by omega) ?_
     rintro z ⟨A, c⟩ mD U3 hz
     by_cases hz3 : z < 3
     · have hst := coL_step (x := x) hy3 hz3
       have hln := coL_len (9 * x + 3 * y + z)
       have hcc : cc (coL (9 * x + 3 * y + z)) ++ [iv x, iv y, iv z] = cc (coL (9 * x + 3 * y + z) ++ [[x, y, z]]) := cc_app _ [[x, y, z]]
       have hl1 : (coL (9 * x + 3 * y + z) ++ [[x, y, z]]).length = (coL (9 * x + 3 * y + z)).length + 1 := by rw [List.length_append]; rfl
       have hnm := fun {bs bf} (w : World) (hs : w.cell? ⟨bs, 0, none⟩ = some (bpv bf)) (hf : FldAt w bf) => normal_e x y z (by omega) hy3 hz3 hs hf
       obtain ⟨kl, hkl⟩ := keyC x y z hx3 hy3 hz3
       unfold plL
       cases hb : okN x y z with
       | true =>
         obtain ⟨k1, k2⟩ := nrm_ok x y z hx3 hy3 hz3 hb
         rw [k1] at hnm
         have E1 := eqv_co x y z x y z true (by simp)
         have E2 := eqv_co x y z 0 0 0 false k2
         rw [if_pos hb] at hst
         refine uS rfl fun K hK => ?_
         refine jt rfl rfl (by omega) ?_
         refine wN hK ?_; clear hK
         refine WC.seq fun K hK => ?_
         refine uT rfl rfl ?_
         refine WC.skip ?_
         (refine hK _ _ ?_; clear hK)
         refine WC.seq fun K hK => ?_
         refine WC.block ?_
         refine uS rfl fun K hK => ?_
         iterate 2 refine jm rfl rfl ?_
         refine wN hK ?_; clear hK
         refine uS rfl fun K hK => ?_
         iterate 3 refine jm rfl rfl ?_
         refine wG rfl rfl (g_buildArr (cs := [_, _, _]) rfl rfl rfl rfl rfl (.cons (.mk (v := .int _ _) rfl rfl) (.cons (.mk (v := .int _ _) rfl rfl) (.cons (.mk (v := .int _ _) rfl rfl) .nil))) rfl rfl rfl) ?_
         refine WL.want rfl (WL1.alloc rfl rfl rfl rfl (fun b10 => ?_))
         refine WL.want rfl (WL1.storeAll rfl rfl (.mk rfl rfl) (.mk rfl rfl) rfl (all1 rfl) (by first | rfl | (simp [Blk.len]; done)) (.head) ?_)
         refine wN hK ?_; clear hK
         refine WC.seq fun K hK => ?_
         refine WC.quiet rfl (by kernel_rfl) (by decide +kernel) ?_
         refine yp rfl rfl rfl ?_
         refine WQ.want rfl (WQ1.give rfl (g_loadA rfl (.mk rfl rfl) rfl rfl (rdr_pt (cs := [iv x, iv y, iv z]) (by repeat constructor) (fun j u h => by simpa using h))) ?_)
         refine WQ.want rfl (WQ1.callP rfl rfl rfl (.cons (.mk (v := cellPtr _ _) rfl rfl) (.cons (.mk (v := .agg _) rfl rfl) .nil)) (fun w hw => hnm w (cell_pt hw (by repeat constructor) rfl) (FldAt.of hw (by repeat constructor) (by repeat constructor) (by repeat constructor) (by repeat constructor) (by repeat constructor) e1 e2)) ?_)
         refine WQ.want rfl (WQ1.give rfl (g_loadA rfl (.mk rfl rfl) rfl rfl (rdr_pt (cs := [iv x, iv y, iv z]) (by repeat constructor) (fun j u h => by simpa using h))) ?_)
         refine WQ.want rfl (WQ1.give rfl (g_aeq (by kernel_rfl) rfl (.mk rfl rfl) (.mk rfl rfl) E1) ?_)
         refine ym rfl rfl ?_
         refine ZW rfl (WQ1.give rfl (g_loadA rfl (.mk rfl rfl) rfl rfl (rdr_pt (cs := [iv x, iv y, iv z]) (by repeat constructor) (fun j u h => by simpa using h))) ?_)
         refine ZW rfl (WQ1.give rfl (g_buildArr (cs := [_, _, _]) rfl rfl rfl rfl rfl .nil rfl rfl rfl) ?_)
         refine ZW rfl (WQ1.give rfl (g_ane (by kernel_rfl) rfl (.mk rfl rfl) (.mk rfl rfl) E2) ?_)
         refine ym rfl rfl ?_
         refine WQ.nil ?_
         (refine hK _ _ ?_; clear hK)
         refine uT rfl rfl ?_
         refine WC.seq fun K hK => ?_
         refine WC.untilL [10] rfl (by kernel_rfl) ?_
         refine uG 0 rfl (by decide +kernel) (.inr (iS (by repeat constructor))) rfl (Gp rfl rfl) ?_
         refine uG 1 rfl (by decide +kernel) (.inr (iS (by repeat constructor))) rfl ⟨rfl, g_nilCheck rfl (.mk rfl rfl) (fun _ _ => rfl)⟩ ?_
         refine uG 2 rfl (by decide +kernel) (.inr (iS (by repeat constructor))) rfl (Ga 2 rfl rfl rfl) ?_
         refine uB 3 rfl (by decide +kernel) (iS (by repeat constructor)) rfl (Gl rfl rfl (rd_pt (.tail _ (.head _)) rfl)) ?_
         refine uB 4 rfl (by decide +kernel) (iS (by repeat constructor)) rfl ⟨rfl, g_loadA rfl (.mk rfl rfl) rfl rfl (rdr_pt (cs := [iv x, iv y, iv z]) (by repeat constructor) (fun j u h => by simpa using h))⟩ ?_
         refine uG 5 rfl (by decide +kernel) (.inr (iS (by repeat constructor))) rfl (Gp rfl rfl) ?_
         refine uG 6 rfl (by decide +kernel) (.inr (iS (by repeat constructor))) rfl ⟨rfl, g_nilCheck rfl (.mk rfl rfl) (fun _ _ => rfl)⟩ ?_
         refine uG 7 rfl (by decide +kernel) (.inr (iS (by repeat constructor))) rfl (Ga 1 rfl rfl rfl) ?_
         refine uB 8 rfl (by decide +kernel) (iS (by repeat constructor)) rfl (Gl rfl rfl (rd_pt (.tail _ (.head _)) rfl)) ?_
         refine uG 9 rfl (by decide +kernel) (.inr (iS (by repeat constructor))) rfl (Gn rfl rfl) ?_
         refine WB.one 10 (by decide +kernel) rfl rfl ?_
         refine WL1.mapUpdate (c := (coL (9 * x + 3 * y + z)).length) (key := .agg (ldv [x, y, z]).toArray) (val := iv ((coL (9 * x + 3 * y + z)).length : Nat)) rfl rfl (.mk rfl rfl) (.mk rfl rfl) (.mk rfl rfl) kC rfl (by unfold maxLen; omega) hkl (by repeat (first | exact .head | apply Swap.tail)) ?_
         refine WL.nil ?_
         refine ⟨.inl (by decide +kernel), ?_⟩
         refine WB.done (by decide +kernel) ?_
         (refine hK _ _ ?_; clear hK)
         refine WC.until [pt b10 COT [iv x, iv y, iv z], pt b28 SPT [bpv bf, .slice A (coL (9 * x + 3 * y + z)).length c, .map (some b26)]] [10] rfl (by kernel_rfl) ?_
         refine uG 0 rfl (by decide +kernel) (.inr (iS (by repeat constructor))) rfl (Gp rfl rfl) ?_
         refine uG 1 rfl (by decide +kernel) (.inr (iS (by repeat constructor))) rfl (Gp rfl rfl) ?_
         refine uG 2 rfl (by decide +kernel) (.inr (iS (by repeat constructor))) rfl ⟨rfl, g_nilCheck rfl (.mk rfl rfl) (fun _ _ => rfl)⟩ ?_
         refine uG 3 rfl (by decide +kernel) (.inr (iS (by repeat constructor))) rfl (Ga 1 rfl rfl rfl) ?_
         refine uB 4 rfl (by decide +kernel) (iS (by repeat constructor)) rfl (Gl rfl rfl (rd_pt (.tail _ (.head _)) rfl)) ?_
         refine uB 5 rfl (by decide +kernel) (iS (by repeat constructor)) rfl ⟨rfl, g_loadA rfl (.mk rfl rfl) rfl rfl (rdr_pt (cs := [iv x, iv y, iv z]) (by repeat constructor) (fun j u h => by simpa using h))⟩ ?_
         refine WB.one 6 (by decide +kernel) rfl rfl ?_
         refine WL1.lit (cs := [iv x, iv y, iv z]) elPC rfl rfl rfl (.cons (.mk (v := .agg _) rfl rfl) .nil) rfl (by intro v hv; rw [List.mem_singleton] at hv; subst hv; rfl) rfl rfl (fun b70 => ?_)
         refine WL.nil ?_
         refine ⟨.inr (iS (by repeat constructor)), ?_⟩
         refine WB.one 7 (by decide +kernel) rfl rfl ?_
         refine WL1.append elPC rfl rfl (.mk rfl rfl) (.mk rfl rfl) (.tail (.tail (.tail (.head)))) (fun w hw => Sl.of_vec hw (.head _)) (by intro u hu; simp only [List.mem_cons, List.not_mem_nil, or_false] at hu; rcases hu with rfl | rfl | rfl <;> rfl) (by unfold maxLen; omega) (by omega) (fun A71 c71 => ?_)
         refine WL.nil ?_
         refine ⟨.inr (iS (by repeat constructor)), ?_⟩
         refine uG 8 rfl (by decide +kernel) (.inr (iS (by repeat constructor))) rfl ⟨rfl, g_nilCheck rfl (.mk rfl rfl) (fun _ _ => rfl)⟩ ?_
         refine uG 9 rfl (by decide +kernel) (.inr (iS (by repeat constructor))) rfl (Ga 1 rfl rfl rfl) ?_
         refine WB.one 10 (by decide +kernel) rfl rfl ?_
         refine WL1.store1 rfl rfl (.mk rfl rfl) (.mk (v := .slice _ _ _) rfl rfl) rfl rfl (Nat.le_of_ble_eq_true rfl) (.tail (.tail (.tail (.head)))) ?_
         refine WL.nil ?_
         refine ⟨.inl (by decide +kernel), ?_⟩
         refine WB.done (by decide +kernel) ?_
         (refine hK _ _ ?_; clear hK)
         refine WC.region rfl ?_
         refine ji rfl rfl (by omega) ?_
         refine jm rfl rfl ?_
         refine WL.nil ?_
         refine ⟨z + 1, (A71, c71), mD.put kl (.held (iv ((coL (9 * x + 3 * y + z)).length : Nat))), (by repeat (first | with_reducible exact .refl _ _ | refine .set rfl ?_ | refine .put rfl ?_ | refine .sets rfl ?_ | refine .hav rfl ?_ | exact .refl _ _)), ⟨rfl, trivial⟩, ?_, by omega, by omega⟩
         dsimp only [plL]
         rw [show coL (9 * x + 3 * y + (z + 1)) = coL (9 * x + 3 * y + z) ++ [[x, y, z]] from hst, hl1, ← hcc]
         exact Imp.pick (by repeat constructor) (Imp.pick (by repeat constructor) (Imp.pick (by repeat constructor) (Imp.pick (by repeat constructor) (Imp.pick (by repeat constructor) (Imp.pick (by repeat constructor) (Imp.pick (by repeat constructor) (Imp.pick (by repeat constructor) (Imp.nil _))))))))
       | false =>
         rw [if_neg (by rw [hb]; exact Bool.false_ne_true)] at hst
         rcases nrm_no x y z hx3 hy3 hz3 hb with ⟨q1, q2, q3⟩ | q
         · have E1 := eqv_co x y z x y z true (by simp)
           have E2 := eqv_co x y z 0 0 0 true (by rw [q1, q2, q3]; rfl)
           have k1 : nrmL x y z = [x, y, z] := by subst q1; subst q2; subst q3; rfl
           rw [k1] at hnm
           refine uS rfl fun K hK => ?_
           refine jt rfl rfl (by omega) ?_
           refine wN hK ?_; clear hK
           refine WC.seq fun K hK => ?_
           refine uT rfl rfl ?_
           refine WC.skip ?_
           (refine hK _ _ ?_; clear hK)
           refine WC.seq fun K hK => ?_
           refine WC.block ?_
           refine uS rfl fun K hK => ?_
           iterate 2 refine jm rfl rfl ?_
           refine wN hK ?_; clear hK
           refine uS rfl fun K hK => ?_
           iterate 3 refine jm rfl rfl ?_
           refine wG rfl rfl (g_buildArr (cs := [_, _, _]) rfl rfl rfl rfl rfl (.cons (.mk (v := .int _ _) rfl rfl) (.cons (.mk (v := .int _ _) rfl rfl) (.cons (.mk (v := .int _ _) rfl rfl) .nil))) rfl rfl rfl) ?_
           refine WL.want rfl (WL1.alloc rfl rfl rfl rfl (fun b10 => ?_))
           refine WL.want rfl (WL1.storeAll rfl rfl (.mk rfl rfl) (.mk rfl rfl) rfl (all1 rfl) (by first | rfl | (simp [Blk.len]; done)) (.head) ?_)
           refine wN hK ?_; clear hK
           refine WC.seq fun K hK => ?_
           refine WC.quiet rfl (by kernel_rfl) (by decide +kernel) ?_
           refine yp rfl rfl rfl ?_
           refine WQ.want rfl (WQ1.give rfl (g_loadA rfl (.mk rfl rfl) rfl rfl (rdr_pt (cs := [iv x, iv y, iv z]) (by repeat constructor) (fun j u h => by simpa using h))) ?_)
           refine WQ.want rfl (WQ1.callP rfl rfl rfl (.cons (.mk (v := cellPtr _ _) rfl rfl) (.cons (.mk (v := .agg _) rfl rfl) .nil)) (fun w hw => hnm w (cell_pt hw (by repeat constructor) rfl) (FldAt.of hw (by repeat constructor) (by repeat constructor) (by repeat constructor) (by repeat constructor) (by repeat constructor) e1 e2)) ?_)
           refine WQ.want rfl (WQ1.give rfl (g_loadA rfl (.mk rfl rfl) rfl rfl (rdr_pt (cs := [iv x, iv y, iv z]) (by repeat constructor) (fun j u h => by simpa using h))) ?_)
           refine WQ.want rfl (WQ1.give rfl (g_aeq (by kernel_rfl) rfl (.mk rfl rfl) (.mk rfl rfl) E1) ?_)
           refine ym rfl rfl ?_
           refine ZW rfl (WQ1.give rfl (g_loadA rfl (.mk rfl rfl) rfl rfl (rdr_pt (cs := [iv x, iv y, iv z]) (by repeat constructor) (fun j u h => by simpa using h))) ?_)
           refine ZW rfl (WQ1.give rfl (g_buildArr (cs := [_, _, _]) rfl rfl rfl rfl rfl .nil rfl rfl rfl) ?_)
           refine ZW rfl (WQ1.give rfl (g_ane (by kernel_rfl) rfl (.mk rfl rfl) (.mk rfl rfl) E2) ?_)
           refine ym rfl rfl ?_
           refine WQ.nil ?_
           (refine hK _ _ ?_; clear hK)
           refine uF rfl rfl ?_
           refine WC.skip ?_
           (refine hK _ _ ?_; clear hK)
           refine WC.region rfl ?_
           refine ji rfl rfl (by omega) ?_
           refine jm rfl rfl ?_
           refine WL.nil ?_
           refine ⟨z + 1, (A, c), mD, (by repeat (first | with_reducible exact .refl _ _ | refine .set rfl ?_ | refine .put rfl ?_ | refine .sets rfl ?_ | refine .hav rfl ?_ | exact .refl _ _)), ⟨rfl, trivial⟩, ?_, by omega, by omega⟩
           dsimp only [plL]
           rw [show coL (9 * x + 3 * y + (z + 1)) = coL (9 * x + 3 * y + z) from hst]
           exact Imp.sub (sB (by repeat constructor))
         · rw [nrm_3 x y z] at hnm
           have E1 := eqv_co _ _ _ x y z false q
           generalize nth (nrmL x y z) 0 = n0 at *
           generalize nth (nrmL x y z) 1 = n1 at *
           generalize nth (nrmL x y z) 2 = n2 at *
           refine uS rfl fun K hK => ?_
           refine jt rfl rfl (by omega) ?_
           refine wN hK ?_; clear hK
           refine WC.seq fun K hK => ?_
           refine uT rfl rfl ?_
           refine WC.skip ?_
           (refine hK _ _ ?_; clear hK)
           refine WC.seq fun K hK => ?_
           refine WC.block ?_
           refine uS rfl fun K hK => ?_
           iterate 2 refine jm rfl rfl ?_
           refine wN hK ?_; clear hK
           refine uS rfl fun K hK => ?_
           iterate 3 refine jm rfl rfl ?_
           refine wG rfl rfl (g_buildArr (cs := [_, _, _]) rfl rfl rfl rfl rfl (.cons (.mk (v := .int _ _) rfl rfl) (.cons (.mk (v := .int _ _) rfl rfl) (.cons (.mk (v := .int _ _) rfl rfl) .nil))) rfl rfl rfl) ?_
           refine WL.want rfl (WL1.alloc rfl rfl rfl rfl (fun b10 => ?_))
           refine WL.want rfl (WL1.storeAll rfl rfl (.mk rfl rfl) (.mk rfl rfl) rfl (all1 rfl) (by first | rfl | (simp [Blk.len]; done)) (.head) ?_)
           refine wN hK ?_; clear hK
           refine WC.seq fun K hK => ?_
           refine WC.quiet rfl (by kernel_rfl) (by decide +kernel) ?_
           refine yp rfl rfl rfl ?_
           refine WQ.want rfl (WQ1.give rfl (g_loadA rfl (.mk rfl rfl) rfl rfl (rdr_pt (cs := [iv x, iv y, iv z]) (by repeat constructor) (fun j u h => by simpa using h))) ?_)
           refine WQ.want rfl (WQ1.callP rfl rfl rfl (.cons (.mk (v := cellPtr _ _) rfl rfl) (.cons (.mk (v := .agg _) rfl rfl) .nil)) (fun w hw => hnm w (cell_pt hw (by repeat constructor) rfl) (FldAt.of hw (by repeat constructor) (by repeat constructor) (by repeat constructor) (by repeat constructor) (by repeat constructor) e1 e2)) ?_)
           refine WQ.want rfl (WQ1.give rfl (g_loadA rfl (.mk rfl rfl) rfl rfl (rdr_pt (cs := [iv x, iv y, iv z]) (by repeat constructor) (fun j u h => by simpa using h))) ?_)
           refine WQ.want rfl (WQ1.give rfl (g_aeq (by kernel_rfl) rfl (.mk rfl rfl) (.mk rfl rfl) E1) ?_)
           refine ym rfl rfl ?_
           iterate 3 refine uz rfl rfl ?_
           refine ym rfl rfl ?_
           refine WQ.nil ?_
           (refine hK _ _ ?_; clear hK)
           refine uF rfl rfl ?_
           refine WC.skip ?_
           (refine hK _ _ ?_; clear hK)
           refine WC.region rfl ?_
           refine ji rfl rfl (by omega) ?_
           refine jm rfl rfl ?_
           refine WL.nil ?_
           refine ⟨z + 1, (A, c), mD, (by repeat (first | with_reducible exact .refl _ _ | refine .set rfl ?_ | refine .put rfl ?_ | refine .sets rfl ?_ | refine .hav rfl ?_ | exact .refl _ _)), ⟨rfl, trivial⟩, ?_, by omega, by omega⟩
           dsimp only [plL]
           rw [show coL (9 * x + 3 * y + (z + 1)) = coL (9 * x + 3 * y + z) from hst]
           exact Imp.sub (sB (by repeat constructor))
     · obtain rfl : z = 3 := by omega
       refine uS rfl fun K hK => ?_
       refine jf rfl rfl (by omega) ?_
       refine wN hK ?_; clear hK
       refine WC.seq fun K hK => ?_
       refine uF rfl rfl ?_
       refine WC.exit ?_
       (clear hK; refine hK _ _ ?_; clear hK)
       refine WC.region rfl ?_
       refine ji rfl rfl (by omega) ?_
       refine jm rfl rfl ?_
       refine WL.nil ?_
       exact ⟨y + 1, (A, c), mD, (by repeat (first | with_reducible exact .refl _ _ | refine .set rfl ?_ | refine .put rfl ?_ | refine .sets rfl ?_ | refine .hav rfl ?_ | exact .refl _ _)), ⟨rfl, trivial⟩, by rw [show 9 * x + 3 * (y + 1) = 9 * x + 3 * y + 3 from by omega]; exact Imp.refl _, by omega, by omega⟩
   · obtain rfl : y = 3 := by omega
     refine uS rfl fun K hK => ?_
     refine jf rfl rfl (by omega) ?_
     refine wN hK ?_; clear hK
     refine WC.seq fun K hK => ?_
     refine uF rfl rfl ?_
     refine WC.exit ?_
     (clear hK; refine hK _ _ ?_; clear hK)
     refine WC.region rfl ?_
     refine ji rfl rfl (by omega) ?_
     refine jm rfl rfl ?_
     refine WL.nil ?_
     exact ⟨x + 1, (A, c), mD, (by repeat (first | with_reducible exact .refl _ _ | refine .set rfl ?_ | refine .put rfl ?_ | refine .sets rfl ?_ | refine .hav rfl ?_ | exact .refl _ _)), ⟨rfl, trivial⟩, by rw [show 9 * (x + 1) = 9 * x + 3 * 3 from by omega]; exact Imp.refl _, by omega, by omega⟩
 · obtain rfl : x = 2 := by omega
   refine uS rfl fun K hK => ?_
   refine jf rfl rfl (by omega) ?_
   refine wN hK ?_; clear hK
   refine WC.seq fun K hK => ?_
   refine uF rfl rfl ?_
   refine WC.exit ?_
   (clear hK; refine hK _ _ ?_; clear hK)
   refine uS rfl fun K hK => ?_
   iterate 2 refine jp rfl rfl rfl ?_
   refine jm rfl rfl ?_
   refine wN hK ?_; clear hK
   refine WC.ret ?_
   exact fun w' hw' => ⟨_, _, rfl, hw', b28, bf, b26, (A, c), (S, cS), (Pp, cP), mD, sm, pr, e1, e2, rfl, rfl⟩
end Go.Proofs.YtdcijljfgcjelaaGreat
