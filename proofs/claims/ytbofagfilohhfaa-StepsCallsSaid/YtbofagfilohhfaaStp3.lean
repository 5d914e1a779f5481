/- Remove, step, IDs, Credit, New, Add of the scheduler, walked. No condition. -/
import Derived.Test.YtbofagfilohhfaaStp2
namespace Go.Proofs.Ytbofagfilohhfaa
set_option maxRecDepth 20000
open Go.RowKit
attribute [local irreducible] Calls
theorem ptrs_erase (es : List En) (k : Nat) : (ptrs es).eraseIdx k = ptrs (es.eraseIdx k) := by simp [ptrs, List.eraseIdx_eq_take_drop_succ, List.map_take, List.map_drop]
theorem ents_erase (es : List En) (k : Nat) : (es.map ent).eraseIdx k = (es.eraseIdx k).map ent := by simp [List.eraseIdx_eq_take_drop_succ, List.map_take, List.map_drop]
theorem ents_out {es : List En} {L : List Asrt} {k : Nat} (hk : k < es.length) : Imp (ents es :: L) (ent (nth es k) :: ents (es.eraseIdx k) :: L) := by
  have := Imp.out (M := es.map ent) (L := L) (k := k) (by rw [List.length_map]; exact hk)
  rw [List.getElem_map, ents_erase, ← nth_eq hk] at this
  exact this
theorem ents_back {es : List En} {L : List Asrt} {k : Nat} {e : En} (hk : k < es.length) : Imp (ent e :: ents (es.eraseIdx k) :: L) (ents (es.set k e) :: L) := by
  have := Imp.back (M := es.map ent) (L := L) (A := ent e) (k := k) (by rw [List.length_map]; exact hk)
  rw [ents_erase, ← List.map_set] at this
  exact this
theorem ents_new {es : List En} {L : List Asrt} {e : En} : Imp (ent e :: ents es :: L) (ents (es ++ [e]) :: L) := by
  have := Imp.new (M := es.map ent) (L := L) (A := ent e)
  rw [show es.map ent ++ [ent e] = (es ++ [e]).map ent from by simp] at this
  exact this
section
variable {w0 w : World} {L : List Asrt} {S c b : Nat} {A : Option Addr} {last x : Int} {es : List En} {e : En}
theorem idI_at {k : Nat} (hk : k < es.length) (h : idN es x = k) : idI es x = (k : Int) := by rw [idI, h, if_pos hk]
theorem idI_no (h : idN es x = es.length) : idI es x = -1 := by rw [idI, h, if_neg (by omega)]
set_option maxRecDepth 20000 in
theorem remove_no (hm : es.length ≤ 64) (hx : idN es x = es.length) (hw : H w0 (schd S A c last es ++ L) w) :
    Calls Try.prog 12 #[bp S, iv x] w fun e w' => ∃ u L', e = .returned u ∧ H w0 L' w' ∧ u = iv 9 ∧ L' = schd S A c last es ++ L := by
  have HI : ∀ w', H w0 (schd S A c last es ++ L) w' → Calls Try.prog 22 #[bp S, iv x] w' fun e w'' => e = .returned (iv (-1)) ∧ Below w'.heap.size w' w'' := fun w' hw' => by
    rw [← idI_no hx]; exact index_e hm hw'
  refine calls_wc (args := [bp S, iv x]) [4] (schd S A c last es ++ L) Try.func12 rfl Try.ntmps12 rfl rfl rfl rfl hw ?_
  (refine WC.seq ?_; intro K hK)
  refine WC.region rfl ?_
  refine WL.want rfl (WL1.give rfl (g_assign rfl (.mk (v := .int _ _) rfl rfl)) ?_)
  refine WL.nil ?_
  (refine hK _ _ ?_; clear hK)
  (refine WC.seq ?_; intro K hK)
  (refine WC.seq ?_; intro K hK)
  refine WC.region rfl ?_
  refine WL.want rfl (WL1.give rfl (g_move rfl (.mk (v := cellPtr _ _) rfl rfl)) ?_)
  refine WL.want rfl (WL1.give rfl (g_eqPN rfl (.mk rfl rfl) (.mk rfl rfl) rfl (fun _ _ => rfl)) ?_)
  refine WL.nil ?_
  (refine hK _ _ ?_; clear hK)
  refine WC.cond_false (.mk rfl rfl) ?_
  refine WC.skip ?_
  (refine hK _ _ ?_; clear hK)
  (refine WC.seq ?_; intro K hK)
  refine WC.region rfl ?_
  refine WL.want rfl (WL1.give rfl (g_move rfl (.mk (v := cellPtr _ _) rfl rfl)) ?_)
  refine WL.want rfl (WL1.give rfl (g_move rfl (.mk (v := .int _ _) rfl rfl)) ?_)
  refine WL.want rfl (WL1.callP rfl rfl rfl (.cons (.mk (v := cellPtr _ _) rfl rfl) (.cons (.mk (v := .int _ _) rfl rfl) .nil)) (fun w hw => HI w hw) ?_)
  refine WL.want rfl (WL1.give rfl (g_assign rfl (.mk (v := .int _ _) rfl rfl)) ?_)
  refine WL.nil ?_
  (refine hK _ _ ?_; clear hK)
  (refine WC.seq ?_; intro K hK)
  (refine WC.seq ?_; intro K hK)
  refine WC.region rfl ?_
  refine WL.want rfl (WL1.give rfl (g_move rfl (.mk (v := .int _ _) rfl rfl)) ?_)
  refine WL.want rfl (WL1.give rfl (g_lt rfl (.mk rfl rfl) (.mk rfl rfl) (decide_eq_true (by omega))) ?_)
  refine WL.nil ?_
  (refine hK _ _ ?_; clear hK)
  refine WC.cond_true (.mk rfl rfl) ?_
  (refine WC.seq ?_; intro K hK)
  refine WC.region rfl ?_
  refine WL.want rfl (WL1.give rfl (g_assign rfl (.mk (v := .int _ _) rfl rfl)) ?_)
  refine WL.nil ?_
  (refine hK _ _ ?_; clear hK)
  refine WC.ret ?_
  exact fun w' hw' => ⟨_, _, rfl, hw', rfl, rfl⟩
set_option maxRecDepth 20000 in
theorem remove_yes {k : Nat} (hm : es.length ≤ 64) (hk : k < es.length) (hx : idN es x = k) (hw : H w0 (schd S A c last es ++ L) w) :
    Calls Try.prog 12 #[bp S, iv x] w fun e w' => ∃ u L', e = .returned u ∧ H w0 L' w' ∧ u = iv 0 ∧ L' = schd S A c last (es.eraseIdx k) ++ ent (nth es k) :: L := by
  have HI : ∀ w', H w0 (schd S A c last es ++ L) w' → Calls Try.prog 22 #[bp S, iv x] w' fun e w'' => e = .returned (iv k) ∧ Below w'.heap.size w' w'' := fun w' hw' => by
    rw [← idI_at hk hx]; exact index_e hm hw'
  refine calls_wc (args := [bp S, iv x]) [4] (schd S A c last es ++ L) Try.func12 rfl Try.ntmps12 rfl rfl rfl rfl hw ?_
  (refine WC.seq ?_; intro K hK)
  refine WC.region rfl ?_
  refine WL.want rfl (WL1.give rfl (g_assign rfl (.mk (v := .int _ _) rfl rfl)) ?_)
  refine WL.nil ?_
  (refine hK _ _ ?_; clear hK)
  (refine WC.seq ?_; intro K hK)
  (refine WC.seq ?_; intro K hK)
  refine WC.region rfl ?_
  refine WL.want rfl (WL1.give rfl (g_move rfl (.mk (v := cellPtr _ _) rfl rfl)) ?_)
  refine WL.want rfl (WL1.give rfl (g_eqPN rfl (.mk rfl rfl) (.mk rfl rfl) rfl (fun _ _ => rfl)) ?_)
  refine WL.nil ?_
  (refine hK _ _ ?_; clear hK)
  refine WC.cond_false (.mk rfl rfl) ?_
  refine WC.skip ?_
  (refine hK _ _ ?_; clear hK)
  (refine WC.seq ?_; intro K hK)
  refine WC.region rfl ?_
  refine WL.want rfl (WL1.give rfl (g_move rfl (.mk (v := cellPtr _ _) rfl rfl)) ?_)
  refine WL.want rfl (WL1.give rfl (g_move rfl (.mk (v := .int _ _) rfl rfl)) ?_)
  refine WL.want rfl (WL1.callP rfl rfl rfl (.cons (.mk (v := cellPtr _ _) rfl rfl) (.cons (.mk (v := .int _ _) rfl rfl) .nil)) (fun w hw => HI w hw) ?_)
  refine WL.want rfl (WL1.give rfl (g_assign rfl (.mk (v := .int _ _) rfl rfl)) ?_)
  refine WL.nil ?_
  (refine hK _ _ ?_; clear hK)
  (refine WC.seq ?_; intro K hK)
  (refine WC.seq ?_; intro K hK)
  refine WC.region rfl ?_
  refine WL.want rfl (WL1.give rfl (g_move rfl (.mk (v := .int _ _) rfl rfl)) ?_)
  refine WL.want rfl (WL1.give rfl (g_lt rfl (.mk rfl rfl) (.mk rfl rfl) (decide_eq_false (by omega))) ?_)
  refine WL.nil ?_
  (refine hK _ _ ?_; clear hK)
  refine WC.cond_false (.mk rfl rfl) ?_
  refine WC.skip ?_
  (refine hK _ _ ?_; clear hK)
  (refine WC.seq ?_; intro K hK)
  refine WC.region rfl ?_
  refine WL.want rfl (WL1.give rfl (g_move rfl (.mk (v := cellPtr _ _) rfl rfl)) ?_)
  refine WL.want rfl (WL1.give rfl (g_move rfl (.mk (v := cellPtr _ _) rfl rfl)) ?_)
  refine WL.want rfl (WL1.give rfl (g_nilCheck rfl (.mk rfl rfl) (fun _ _ => rfl)) ?_)
  refine WL.want rfl (WL1.give rfl (g_fieldAddr (off := 0) rfl (.mk rfl rfl) rfl (fun _ _ => rfl)) ?_)
  refine WL.want rfl (WL1.give rfl (g_load rfl (.mk rfl rfl) rfl (rd_pt (.head _) rfl)) ?_)
  refine WL.want rfl (WL1.give rfl (g_move rfl (.mk (v := .int _ _) rfl rfl)) ?_)
  refine WL.want rfl (WL1.give rfl (g_move rfl (.mk (v := .int _ _) rfl rfl)) ?_)
  refine WL.want rfl (WL1.give rfl (g_add rfl (.mk rfl rfl) (.mk rfl rfl) (IntWalk.i64_in _ (by omega))) ?_)
  (refine WL.want rfl (WL1.callF rfl rfl rfl (.cons (.mk (v := .slice _ _ _) rfl rfl) (.cons (.mk (v := .int _ _) rfl rfl) (.cons (.mk (v := .int _ _) rfl rfl) .nil))) (fun w hw => delete_e (ptrs_len es) (ptrs_one es) hk (by omega) (hw.perm (.swap _ _ _))) ?_); rintro _ _ ⟨rfl, rfl⟩)
  refine WL.want rfl (WL1.give rfl (g_nilCheck rfl (.mk rfl rfl) (fun _ _ => rfl)) ?_)
  refine WL.want rfl (WL1.give rfl (g_fieldAddr (off := 0) rfl (.mk rfl rfl) rfl (fun _ _ => rfl)) ?_)
  refine WL.want rfl (WL1.store1 rfl rfl (.mk rfl rfl) (.mk (v := .slice _ _ _) rfl rfl) rfl rfl (Nat.le_of_ble_eq_true rfl) (.tail (.head)) ?_)
  refine WL.nil ?_
  (refine hK _ _ ?_; clear hK)
  (refine WC.seq ?_; intro K hK)
  refine WC.region rfl ?_
  refine WL.want rfl (WL1.give rfl (g_assign rfl (.mk (v := .int _ _) rfl rfl)) ?_)
  refine WL.nil ?_
  (refine hK _ _ ?_; clear hK)
  refine WC.ret ?_
  intro w' hw'
  refine ⟨_, _, rfl, ?_, rfl, rfl⟩
  have hl : (es.eraseIdx k).length = es.length - 1 := List.length_eraseIdx_of_lt hk
  have h1 := hw'.perm (.swap _ _ _)
  rw [ptrs_erase, ← hl] at h1
  refine Imp.h ?_ h1
  exact Imp.cons (Imp.cons ((ents_out hk).trans (Imp.perm (.swap _ _ _))))
abbrev wr (x : Int) : Int := IntKind.i64.wrap x
set_option maxRecDepth 20000 in
theorem job_step {j : Nat} {l d : Int} (hw : H w0 (pt j JT [iv l, iv d] :: L) w) :
    Calls Try.prog 45 #[bp j] w fun e w' => e = .returned (.bool (decide (wr (l - 1) = 0))) ∧ H w0 (pt j JT [iv (wr (l - 1)), iv (wr (d + 1))] :: L) w' := by
  refine calls_wc (args := [bp j]) [2] (pt j JT [iv l, iv d] :: L) Try.func45 rfl Try.ntmps45 rfl rfl rfl rfl hw ?_
  (refine WC.seq ?_; intro K hK)
  refine WC.region rfl ?_
  refine WL.want rfl (WL1.give rfl (g_assign rfl (.mk (v := .bool _) rfl rfl)) ?_)
  refine WL.nil ?_
  (refine hK _ _ ?_; clear hK)
  (refine WC.seq ?_; intro K hK)
  refine WC.region rfl ?_
  refine WL.want rfl (WL1.give rfl (g_move rfl (.mk (v := cellPtr _ _) rfl rfl)) ?_)
  refine WL.want rfl (WL1.give rfl (g_nilCheck rfl (.mk rfl rfl) (fun _ _ => rfl)) ?_)
  refine WL.want rfl (WL1.give rfl (g_fieldAddr (off := 0) rfl (.mk rfl rfl) rfl (fun _ _ => rfl)) ?_)
  refine WL.want rfl (WL1.give rfl (g_load rfl (.mk rfl rfl) rfl (rd_pt (.head _) rfl)) ?_)
  refine WL.want rfl (WL1.give rfl (g_sub rfl (.mk rfl rfl) (.mk rfl rfl) rfl) ?_)
  refine WL.want rfl (WL1.give rfl (g_nilCheck rfl (.mk rfl rfl) (fun _ _ => rfl)) ?_)
  refine WL.want rfl (WL1.give rfl (g_fieldAddr (off := 0) rfl (.mk rfl rfl) rfl (fun _ _ => rfl)) ?_)
  refine WL.want rfl (WL1.store1 rfl rfl (.mk rfl rfl) (.mk (v := .int _ _) rfl rfl) rfl rfl (Nat.le_of_ble_eq_true rfl) (.head) ?_)
  refine WL.nil ?_
  (refine hK _ _ ?_; clear hK)
  (refine WC.seq ?_; intro K hK)
  refine WC.region rfl ?_
  refine WL.want rfl (WL1.give rfl (g_move rfl (.mk (v := cellPtr _ _) rfl rfl)) ?_)
  refine WL.want rfl (WL1.give rfl (g_nilCheck rfl (.mk rfl rfl) (fun _ _ => rfl)) ?_)
  refine WL.want rfl (WL1.give rfl (g_fieldAddr (off := 1) rfl (.mk rfl rfl) rfl (fun _ _ => rfl)) ?_)
  refine WL.want rfl (WL1.give rfl (g_load rfl (.mk rfl rfl) rfl (rd_pt (.head _) rfl)) ?_)
  refine WL.want rfl (WL1.give rfl (g_add rfl (.mk rfl rfl) (.mk rfl rfl) rfl) ?_)
  refine WL.want rfl (WL1.give rfl (g_nilCheck rfl (.mk rfl rfl) (fun _ _ => rfl)) ?_)
  refine WL.want rfl (WL1.give rfl (g_fieldAddr (off := 1) rfl (.mk rfl rfl) rfl (fun _ _ => rfl)) ?_)
  refine WL.want rfl (WL1.store1 rfl rfl (.mk rfl rfl) (.mk (v := .int _ _) rfl rfl) rfl rfl (Nat.le_of_ble_eq_true rfl) (.head) ?_)
  refine WL.nil ?_
  (refine hK _ _ ?_; clear hK)
  (refine WC.seq ?_; intro K hK)
  refine WC.region rfl ?_
  refine WL.want rfl (WL1.give rfl (g_move rfl (.mk (v := cellPtr _ _) rfl rfl)) ?_)
  refine WL.want rfl (WL1.give rfl (g_nilCheck rfl (.mk rfl rfl) (fun _ _ => rfl)) ?_)
  refine WL.want rfl (WL1.give rfl (g_fieldAddr (off := 0) rfl (.mk rfl rfl) rfl (fun _ _ => rfl)) ?_)
  refine WL.want rfl (WL1.give rfl (g_load rfl (.mk rfl rfl) rfl (rd_pt (.head _) rfl)) ?_)
  refine WL.want rfl (WL1.give rfl (g_eq rfl (.mk rfl rfl) (.mk rfl rfl) rfl) ?_)
  refine WL.want rfl (WL1.give rfl (g_assign rfl (.mk (v := .bool _) rfl rfl)) ?_)
  refine WL.nil ?_
  (refine hK _ _ ?_; clear hK)
  refine WC.ret ?_
  exact fun w' hw' => ⟨rfl, hw'⟩
end
section
variable {P : Program} {n : Fr} {w0 : World} {ops : Array Oper} {K : Post} {o : Oper} {rest : List Oper} {E : Env} {L : List Asrt}
theorem WL1.invokeE {x : Operand} {name : String} {args : List Operand} {ts : Array TypeId} {d : Option Tmp} {t : TypeId} {rv v : Value} {f : FuncId} {vals : List Value} {L' : List Asrt}
    (ho : o.op = .call { callee := .invoke x name, args := args.toArray, argTypes := ts }) (hd : o.dst = d) (hx : Ev n E x (.iface t rv)) (hm : methT P t name = some f) (hc : callable P f = true) (hv : Evs n E args vals)
    (h : ∀ w, H w0 L w → Calls P f (rv :: vals).toArray w fun e w' => e = .returned v ∧ H w0 L' w') (k : WL P n w0 ops K rest (E.put d v) L') : WL1 P n w0 ops K o rest E L :=
  WL1.invokeF (Φ := fun v' L'' => v' = v ∧ L'' = L') ho hd hx hm hc hv (fun w hw => (h w hw).mono fun _ _ ⟨h1, h2⟩ => ⟨v, L', h1, h2, rfl, rfl⟩) (fun _ _ ⟨h1, h2⟩ => by subst h1; subst h2; exact k)
end
section
variable {w0 w : World} {L : List Asrt} {S c b k j : Nat} {A : Option Addr} {last l d : Int} {es : List En}
theorem job_in {L1 : List Asrt} (hw : H w0 (L1 ++ pt j JT [iv l, iv d] :: L) w) :
    Calls Try.prog 45 #[bp j] w fun e w' => e = .returned (.bool (decide (wr (l - 1) = 0))) ∧ H w0 (L1 ++ pt j JT [iv (wr (l - 1)), iv (wr (d + 1))] :: L) w' :=
  (job_step (hw.perm List.perm_middle)).mono fun _ _ ⟨h1, h2⟩ => ⟨h1, h2.perm List.perm_middle.symm⟩
set_option maxRecDepth 20000 in
theorem step_go (hk : k < es.length) (hj : (nth es k).j = j) (hl : wr (l - 1) ≠ 0) (hw : H w0 (schd S A c last es ++ pt j JT [iv l, iv d] :: L) w) :
    Calls Try.prog 24 #[bp S, bp (nth es k).p] w fun e w' => ∃ u L', e = .returned u ∧ H w0 L' w' ∧ u = .tuple #[iv (nth es k).id, .bool false, iv 0] ∧ L' = schd S A c last es ++ pt j JT [iv (wr (l - 1)), iv (wr (d + 1))] :: L := by
  have hmem := ent_mem hk
  have HJ : ∀ w', H w0 (schd S A c last es ++ pt j JT [iv l, iv d] :: L) w' → Calls Try.prog 45 #[bp (nth es k).j] w' fun e w'' => e = .returned (.bool false) ∧ H w0 (schd S A c last es ++ pt j JT [iv (wr (l - 1)), iv (wr (d + 1))] :: L) w'' := fun w' hw' => by
    have := job_in hw'
    rw [decide_eq_false hl] at this
    rw [hj]; exact this
  refine calls_wc (args := [bp S, bp (nth es k).p]) [4, 5, 6] (schd S A c last es ++ pt j JT [iv l, iv d] :: L) Try.func24 rfl Try.ntmps24 rfl rfl rfl rfl hw ?_
  (refine WC.seq ?_; intro K hK)
  refine WC.region rfl ?_
  refine WL.want rfl (WL1.give rfl (g_assign rfl (.mk (v := .int _ _) rfl rfl)) ?_)
  refine WL.want rfl (WL1.give rfl (g_assign rfl (.mk (v := .bool _) rfl rfl)) ?_)
  refine WL.want rfl (WL1.give rfl (g_assign rfl (.mk (v := .int _ _) rfl rfl)) ?_)
  refine WL.nil ?_
  (refine hK _ _ ?_; clear hK)
  (refine WC.seq ?_; intro K hK)
  refine WC.region rfl ?_
  refine WL.want rfl (WL1.give rfl (g_move rfl (.mk (v := cellPtr _ _) rfl rfl)) ?_)
  refine WL.want rfl (WL1.give rfl (g_nilCheck rfl (.mk rfl rfl) (fun _ _ => rfl)) ?_)
  refine WL.want rfl (WL1.give rfl (g_fieldAddr (off := 3) rfl (.mk rfl rfl) rfl (fun _ _ => rfl)) ?_)
  refine WL.want rfl (WL1.give rfl (g_load rfl (.mk rfl rfl) rfl (rd_bun (M := es.map ent) (by first | ((repeat (first | exact .head _ | apply List.Mem.tail)); done) | fail) hmem rfl)) ?_)
  refine WL.want rfl (WL1.invokeE (t := MT) (f := 45) (vals := []) rfl rfl (.mk (v := .iface _ _) rfl rfl) (by kernel_rfl) (by kernel_rfl) .nil HJ ?_)
  refine WL.want rfl (WL1.give rfl (g_assign rfl (.mk (v := .bool _) rfl rfl)) ?_)
  refine WL.nil ?_
  (refine hK _ _ ?_; clear hK)
  (refine WC.seq ?_; intro K hK)
  (refine WC.seq ?_; intro K hK)
  refine WC.region rfl ?_
  refine WL.want rfl (WL1.give rfl (g_move rfl (.mk (v := .bool _) rfl rfl)) ?_)
  refine WL.nil ?_
  (refine hK _ _ ?_; clear hK)
  refine WC.cond_false (.mk rfl rfl) ?_
  refine WC.skip ?_
  (refine hK _ _ ?_; clear hK)
  (refine WC.seq ?_; intro K hK)
  refine WC.region rfl ?_
  refine WL.want rfl (WL1.give rfl (g_move rfl (.mk (v := cellPtr _ _) rfl rfl)) ?_)
  refine WL.want rfl (WL1.give rfl (g_nilCheck rfl (.mk rfl rfl) (fun _ _ => rfl)) ?_)
  refine WL.want rfl (WL1.give rfl (g_fieldAddr (off := 0) rfl (.mk rfl rfl) rfl (fun _ _ => rfl)) ?_)
  refine WL.want rfl (WL1.give rfl (g_load rfl (.mk rfl rfl) rfl (rd_bun (M := es.map ent) (by first | ((repeat (first | exact .head _ | apply List.Mem.tail)); done) | fail) hmem rfl)) ?_)
  refine WL.want rfl (WL1.give rfl (g_move rfl (.mk (v := .bool _) rfl rfl)) ?_)
  refine WL.want rfl (WL1.give rfl (g_assign rfl (.mk (v := .int _ _) rfl rfl)) ?_)
  refine WL.want rfl (WL1.give rfl (g_assign rfl (.mk (v := .bool _) rfl rfl)) ?_)
  refine WL.want rfl (WL1.give rfl (g_assign rfl (.mk (v := .int _ _) rfl rfl)) ?_)
  refine WL.nil ?_
  (refine hK _ _ ?_; clear hK)
  refine WC.ret ?_
  exact fun w' hw' => ⟨_, _, rfl, hw', rfl, rfl⟩
set_option maxRecDepth 20000 in
theorem step_end (hm : es.length ≤ 64) (hk : k < es.length) (hx : idN es (nth es k).id = k) (hj : (nth es k).j = j) (hl : wr (l - 1) = 0) (hw : H w0 (schd S A c last es ++ pt j JT [iv l, iv d] :: L) w) :
    Calls Try.prog 24 #[bp S, bp (nth es k).p] w fun e w' => ∃ u L', e = .returned u ∧ H w0 L' w' ∧ u = .tuple #[iv (nth es k).id, .bool true, iv 0] ∧ L' = schd S A c last (es.eraseIdx k) ++ pt j JT [iv (wr (l - 1)), iv (wr (d + 1))] :: L := by
  have hmem := ent_mem hk
  have HJ : ∀ w', H w0 (schd S A c last es ++ pt j JT [iv l, iv d] :: L) w' → Calls Try.prog 45 #[bp (nth es k).j] w' fun e w'' => e = .returned (.bool true) ∧ H w0 (schd S A c last es ++ pt j JT [iv (wr (l - 1)), iv (wr (d + 1))] :: L) w'' := fun w' hw' => by
    have := job_in hw'
    rw [decide_eq_true hl] at this
    rw [hj]; exact this
  refine calls_wc (args := [bp S, bp (nth es k).p]) [4, 5, 6] (schd S A c last es ++ pt j JT [iv l, iv d] :: L) Try.func24 rfl Try.ntmps24 rfl rfl rfl rfl hw ?_
  (refine WC.seq ?_; intro K hK)
  refine WC.region rfl ?_
  refine WL.want rfl (WL1.give rfl (g_assign rfl (.mk (v := .int _ _) rfl rfl)) ?_)
  refine WL.want rfl (WL1.give rfl (g_assign rfl (.mk (v := .bool _) rfl rfl)) ?_)
  refine WL.want rfl (WL1.give rfl (g_assign rfl (.mk (v := .int _ _) rfl rfl)) ?_)
  refine WL.nil ?_
  (refine hK _ _ ?_; clear hK)
  (refine WC.seq ?_; intro K hK)
  refine WC.region rfl ?_
  refine WL.want rfl (WL1.give rfl (g_move rfl (.mk (v := cellPtr _ _) rfl rfl)) ?_)
  refine WL.want rfl (WL1.give rfl (g_nilCheck rfl (.mk rfl rfl) (fun _ _ => rfl)) ?_)
  refine WL.want rfl (WL1.give rfl (g_fieldAddr (off := 3) rfl (.mk rfl rfl) rfl (fun _ _ => rfl)) ?_)
  refine WL.want rfl (WL1.give rfl (g_load rfl (.mk rfl rfl) rfl (rd_bun (M := es.map ent) (by first | ((repeat (first | exact .head _ | apply List.Mem.tail)); done) | fail) hmem rfl)) ?_)
  refine WL.want rfl (WL1.invokeE (t := MT) (f := 45) (vals := []) rfl rfl (.mk (v := .iface _ _) rfl rfl) (by kernel_rfl) (by kernel_rfl) .nil HJ ?_)
  refine WL.want rfl (WL1.give rfl (g_assign rfl (.mk (v := .bool _) rfl rfl)) ?_)
  refine WL.nil ?_
  (refine hK _ _ ?_; clear hK)
  (refine WC.seq ?_; intro K hK)
  (refine WC.seq ?_; intro K hK)
  refine WC.region rfl ?_
  refine WL.want rfl (WL1.give rfl (g_move rfl (.mk (v := .bool _) rfl rfl)) ?_)
  refine WL.nil ?_
  (refine hK _ _ ?_; clear hK)
  refine WC.cond_true (.mk rfl rfl) ?_
  refine WC.region rfl ?_
  refine WL.want rfl (WL1.give rfl (g_move rfl (.mk (v := cellPtr _ _) rfl rfl)) ?_)
  refine WL.want rfl (WL1.give rfl (g_move rfl (.mk (v := cellPtr _ _) rfl rfl)) ?_)
  refine WL.want rfl (WL1.give rfl (g_nilCheck rfl (.mk rfl rfl) (fun _ _ => rfl)) ?_)
  refine WL.want rfl (WL1.give rfl (g_fieldAddr (off := 0) rfl (.mk rfl rfl) rfl (fun _ _ => rfl)) ?_)
  refine WL.want rfl (WL1.give rfl (g_load rfl (.mk rfl rfl) rfl (rd_bun (M := es.map ent) (by first | ((repeat (first | exact .head _ | apply List.Mem.tail)); done) | fail) hmem rfl)) ?_)
  (refine WL.want rfl (WL1.callF rfl rfl rfl (.cons (.mk (v := cellPtr _ _) rfl rfl) (.cons (.mk (v := .int _ _) rfl rfl) .nil)) (fun w hw => remove_yes hm hk hx hw) ?_); rintro _ _ ⟨rfl, rfl⟩)
  refine WL.nil ?_
  (refine hK _ _ ?_; clear hK)
  (refine WC.seq ?_; intro K hK)
  refine WC.region rfl ?_
  refine WL.want rfl (WL1.give rfl (g_move rfl (.mk (v := cellPtr _ _) rfl rfl)) ?_)
  refine WL.want rfl (WL1.give rfl (g_nilCheck rfl (.mk rfl rfl) (fun _ _ => rfl)) ?_)
  refine WL.want rfl (WL1.give rfl (g_fieldAddr (off := 0) rfl (.mk rfl rfl) rfl (fun _ _ => rfl)) ?_)
  refine WL.want rfl (WL1.give rfl (g_load rfl (.mk rfl rfl) rfl (rd_pt (.tail _ (.tail _ (.tail _ (.head _)))) rfl)) ?_)
  refine WL.want rfl (WL1.give rfl (g_move rfl (.mk (v := .bool _) rfl rfl)) ?_)
  refine WL.want rfl (WL1.give rfl (g_assign rfl (.mk (v := .int _ _) rfl rfl)) ?_)
  refine WL.want rfl (WL1.give rfl (g_assign rfl (.mk (v := .bool _) rfl rfl)) ?_)
  refine WL.want rfl (WL1.give rfl (g_assign rfl (.mk (v := .int _ _) rfl rfl)) ?_)
  refine WL.nil ?_
  (refine hK _ _ ?_; clear hK)
  refine WC.ret ?_
  exact fun w' hw' => ⟨_, _, rfl, hw'.sub (.cons_cons _ (.cons_cons _ (.cons_cons _ (.cons _ (.refl _))))), rfl, rfl⟩
end
end Go.Proofs.Ytbofagfilohhfaa
