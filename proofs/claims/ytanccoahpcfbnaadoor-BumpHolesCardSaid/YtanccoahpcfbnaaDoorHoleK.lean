/-
  hole.Next of what is no table.
-/
import Derived.Test.YtanccoahpcfbnaaDoorHoleJ
import Derived.Test.YtanccoahpcfbnaaDoorGenB
namespace Go.Proofs.YtanccoahpcfbnaaDoor
open Go.RowKit Go.Lib Go.Shelf
attribute [local go_sem] Oper.semAt_some

set_option maxRecDepth 100000 in
set_option maxHeartbeats 2000000 in
theorem next_no (v : Value) (f : Int) (w : World) (h : NoTab w v) :
    Calls Tryd.prog 39 #[v, .int .i64 f] w fun e w' => e = .returned (firstV none) ∧ Below w.heap.size w w' := by
  have HT := Lib.hid h
  clear h
  go_enter Tryd.func39, Tryd.ntmps39
  go_wp2_with fail
  refine wp_scope_goto 0 rfl ?_
  go_wp2_with (first
    | (go_at_call 46; ((with_reducible refine (look_none v _ _ ?_).mono ?_)); exact HT.out.below ((Below.refl _ w).alloc (Nat.le_refl _) _); rintro e w1 ⟨rfl, hb1⟩; have bS : Blk w1 w.heap.size #[.int .i64 0, .int .i64 0] 53 := (Blk.new w _ _).below' hb1; have HB1 := Lib.hid (bstep ((Below.refl _ w).alloc (Nat.le_refl _) _) hb1); clear hb1)
    | (refine wpList_store_new rfl 77 _ _ rfl _ (fcells (fun _ => false) 0) 77 rfl rfl (by rw [fcells_size]; exact Tryd.infoFinder) (by rfl) (fcells_one _ _) ?_; intro W2 bF bK hB2 hs2; have bS2 := bK _ _ _ bS; have HB2 := Lib.hid (bstep HB1.out hB2); clear bK hB2 hs2))
  all_goals go_step3
  all_goals refine ⟨rfl, ?_⟩
  all_goals dsimp only
  all_goals go_wp2_with (refine wpList_store_blk rfl 53 _ _ rfl _ _ (hole2 none) 53 bS2 rfl rfl (by rw [hole2_size]; exact Tryd.infoHole2) (by rw [hole2_size]; rfl) (hole2_one _) ?_; intro W4 bR4 bK4 hB4 hs4; have HB4 := Lib.hid (HB2.out.trans (hB4 _ (Nat.le_refl _))); clear bK4 hB4 hs4)
  all_goals (try rw [Exit.noGoto_ret])
  all_goals have hrow := run_loadVar_row (P := Tryd.prog) W4 w.heap.size 53 53 _ (0, 0) _ bR4 Tryd.underlying53 rfl (by rw [hole2_size]; exact Tryd.infoHole2)
  all_goals exact bodyPost_ret (v := firstV none) (res_cell_tmp rfl _ _ _ _ _ rfl rfl hrow) rfl ⟨rfl, HB4.out⟩
end Go.Proofs.YtanccoahpcfbnaaDoor
