/- The walks of the token bucket. No condition. -/
import Derived.Test.YtcdpffndpaldoaaEng7
import Derived.Test.YtcdpffndpaldoaaProg
namespace Go.Proofs.Ytcdpffndpaldoaa
open Go.RowKit
abbrev iv (x : Int) : Value := .int .i64 x
/-- The cells of a bucket: rate, burst, level. -/
def bc (r B l : Int) : List Value := [iv r, iv B, iv l]
abbrev TB : TypeId := 58
abbrev bkt (b : Nat) (r B l : Int) : Asrt := pt b TB (bc r B l)
abbrev bp (b : Nat) : Value := cellPtr (some ⟨b, 0, none⟩) 0
section
variable {w0 w : World} {L : List Asrt} {b : Nat} {r B l : Int}
set_option maxRecDepth 20000 in
theorem aload_e (k : Nat) (v : Int) (hc : w.cell? ⟨b, k, none⟩ = some (iv v)) :
    Calls Try.prog 21 #[cellPtr (some ⟨b, 0, none⟩) k] w fun e w' => e = .returned (iv v) ∧ Below w.heap.size w w' := by
  refine calls_wc (args := [cellPtr (some ⟨b, 0, none⟩) k]) [2] ([]) Try.func21 rfl Try.ntmps21 rfl rfl rfl rfl (H.refl w) ?_
  (refine WC.seq ?_; intro K hK)
  refine WC.region ?_
  refine WL.want rfl (WL1.give rfl (g_assign rfl (.mk (v := .int _ _) rfl rfl)) ?_)
  refine WL.nil ?_
  (refine hK _ _ ?_; clear hK)
  (refine WC.seq ?_; intro K hK)
  refine WC.region ?_
  refine WL.want rfl (WL1.give rfl (g_move rfl (.mk (v := cellPtr _ _) rfl rfl)) ?_)
  refine WL.want rfl (WL1.give rfl (g_nilCheck rfl (.mk rfl rfl) (fun _ _ => rfl)) ?_)
  refine WL.want rfl (WL1.give rfl (g_fieldAddr (off := 0) rfl (.mk rfl rfl) rfl (fun _ _ => rfl)) ?_)
  refine WL.want rfl (WL1.give rfl (g_aload (kk := .i64) (by kernel_rfl) (by kernel_rfl) rfl (.mk rfl rfl) (rd_wb hc)) ?_)
  refine WL.want rfl (WL1.give rfl (g_assign rfl (.mk (v := .int _ _) rfl rfl)) ?_)
  refine WL.nil ?_
  (refine hK _ _ ?_; clear hK)
  refine WC.ret ?_
  exact fun w' hw' => ⟨rfl, hw'.1⟩
set_option maxRecDepth 20000 in
theorem astore_e (v : Int) (hw : H w0 (bkt b r B l :: L) w) :
    Calls Try.prog 20 #[cellPtr (some ⟨b, 0, none⟩) 2, iv v] w fun e w' => ∃ u L', e = .returned u ∧ H w0 L' w' ∧ u = .tuple #[] ∧ L' = bkt b r B v :: L := by
  refine calls_wc (args := [cellPtr (some ⟨b, 0, none⟩) 2, iv v]) [] (bkt b r B l :: L) Try.func20 rfl Try.ntmps20 rfl rfl rfl rfl hw ?_
  refine WC.region ?_
  refine WL.want rfl (WL1.give rfl (g_move rfl (.mk (v := cellPtr _ _) rfl rfl)) ?_)
  refine WL.want rfl (WL1.give rfl (g_nilCheck rfl (.mk rfl rfl) (fun _ _ => rfl)) ?_)
  refine WL.want rfl (WL1.give rfl (g_fieldAddr (off := 0) rfl (.mk rfl rfl) rfl (fun _ _ => rfl)) ?_)
  refine WL.want rfl (WL1.give rfl (g_move rfl (.mk (v := .int _ _) rfl rfl)) ?_)
  refine WL.want rfl (WL1.astore (by kernel_rfl) (by kernel_rfl) rfl rfl (.mk rfl rfl) (.mk rfl rfl) (Nat.le_of_ble_eq_true rfl) (.head) ?_)
  refine WL.nil ?_
  exact fun w' hw' => ⟨_, _, rfl, hw', rfl, rfl⟩
set_option maxRecDepth 20000 in
theorem acas_e (v : Int) (hw : H w0 (bkt b r B l :: L) w) :
    Calls Try.prog 28 #[cellPtr (some ⟨b, 0, none⟩) 2, iv l, iv v] w fun e w' => ∃ u L', e = .returned u ∧ H w0 L' w' ∧ u = .bool true ∧ L' = bkt b r B v :: L := by
  refine calls_wc (args := [cellPtr (some ⟨b, 0, none⟩) 2, iv l, iv v]) [6] (bkt b r B l :: L) Try.func28 rfl Try.ntmps28 rfl rfl rfl rfl hw ?_
  (refine WC.seq ?_; intro K hK)
  refine WC.region ?_
  refine WL.want rfl (WL1.give rfl (g_assign rfl (.mk (v := .bool _) rfl rfl)) ?_)
  refine WL.nil ?_
  (refine hK _ _ ?_; clear hK)
  (refine WC.seq ?_; intro K hK)
  refine WC.region ?_
  refine WL.want rfl (WL1.give rfl (g_move rfl (.mk (v := cellPtr _ _) rfl rfl)) ?_)
  refine WL.want rfl (WL1.give rfl (g_nilCheck rfl (.mk rfl rfl) (fun _ _ => rfl)) ?_)
  refine WL.want rfl (WL1.give rfl (g_fieldAddr (off := 0) rfl (.mk rfl rfl) rfl (fun _ _ => rfl)) ?_)
  refine WL.want rfl (WL1.give rfl (g_move rfl (.mk (v := .int _ _) rfl rfl)) ?_)
  refine WL.want rfl (WL1.give rfl (g_move rfl (.mk (v := .int _ _) rfl rfl)) ?_)
  refine WL.want rfl (WL1.acas (kk := .i64) (by kernel_rfl) (by kernel_rfl) rfl rfl (.mk rfl rfl) (.mk rfl rfl) (.mk rfl rfl) rfl (.head) ?_)
  refine WL.want rfl (WL1.give rfl (g_assign rfl (.mk (v := .bool _) rfl rfl)) ?_)
  refine WL.nil ?_
  (refine hK _ _ ?_; clear hK)
  refine WC.ret ?_
  exact fun w' hw' => ⟨_, _, rfl, hw', rfl, rfl⟩
end
end Go.Proofs.Ytcdpffndpaldoaa
