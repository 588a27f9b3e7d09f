/-
  hole.Next: the hole from a line on.
-/
import Derived.Test.YtanccoahpcfbnaaDoorHoleI
namespace Go.Proofs.YtanccoahpcfbnaaDoor
open Go.RowKit Go.Lib Go.Shelf
attribute [local go_sem] Oper.semAt_some

/-- The line that is meant: none below 0. -/
def line0 (f : Int) : Nat := f.toNat

theorem hole2_size (r : Option (Nat × Nat)) : (hole2 r).size = 2 := by cases r <;> rfl
theorem hole2_one (r : Option (Nat × Nat)) : (hole2 r).all (·.oneCell') = true := by cases r <;> simp [hole2, Value.oneCell']

theorem first_zero (q : Nat → Bool) (w : World) :
    Calls Tryd.prog 53 #[.agg (fcells q 0), .slice none 0 0] w fun e w' => e = .returned (firstV (holesZ q 0).head?) ∧ Below w.heap.size w w' := first_none q 0 w
set_option maxRecDepth 100000 in
set_option maxHeartbeats 2000000 in
theorem next_neg (b o cap : Nat) (z : Nat → Int) (f : Int) (w : World) (hT : Tab w b o z) (hr : rightT z = true) (hf : f < 0) :
    Calls Tryd.prog 39 #[.slice (some ⟨b, o, none⟩) 32 cap, .int .i64 f] w fun e w' => e = .returned (firstV (holesZ (keptZ z) 0).head?) ∧ Below w.heap.size w w' := by
  have HT := Lib.hid hT
  have HR := Lib.hid hr
  clear hT hr
  go_enter Tryd.func39, Tryd.ntmps39
  go_wp2_with fail
  go_step3
  go_wp2_with (first
    | (go_at_call 46; ((with_reducible refine (look_yes b o cap z 0 _ ?_ HR.out).mono ?_)); exact HT.out.below ((Below.refl _ w).alloc (Nat.le_refl _) _); rintro e w1 ⟨rfl, hb1⟩; have bS : Blk w1 w.heap.size #[.int .i64 0, .int .i64 0] 53 := (Blk.new w _ _).below' hb1; have HB1 := Lib.hid (bstep ((Below.refl _ w).alloc (Nat.le_refl _) _) hb1); clear hb1)
    | (refine wpList_store_new rfl 77 _ _ rfl _ (fcells (keptZ z) 0) 77 rfl rfl (by rw [fcells_size]; exact Tryd.infoFinder) (by rw [fcells_size]; rfl) (fcells_one _ _) ?_; intro W2 bF bK hB2 hs2; have bS2 := bK _ _ _ bS; have HB2 := Lib.hid (bstep HB1.out hB2); clear bK hB2 hs2)
    | (refine wpList_load_row rfl 77 _ rfl _ rfl 77 _ (0, 0) _ bF Tryd.underlying77 rfl (by rw [fcells_size]; exact Tryd.infoFinder) ?_)
    | (go_at_call 53; ((with_reducible refine (first_zero (keptZ z) _).mono ?_)); rintro e w3 ⟨rfl, hb3⟩; have bS3 := bS2.below' hb3; have HB3 := Lib.hid (bstep HB2.out hb3); clear hb3; unfold firstV)
    | (refine wpList_store_blk rfl 53 _ _ rfl _ _ (hole2 (holesZ (keptZ z) 0).head?) 53 bS3 rfl rfl (by rw [hole2_size]; exact Tryd.infoHole2) (by rw [hole2_size]; rfl) (hole2_one _) ?_; intro W4 bR4 bK4 hB4 hs4; have HB4 := Lib.hid (HB3.out.trans (hB4 _ (Nat.le_refl _))); clear bK4 hB4 hs4))
  try rw [Exit.noGoto_ret]
  have hrow := run_loadVar_row (P := Tryd.prog) W4 w.heap.size 53 53 _ (0, 0) _ bR4 Tryd.underlying53 rfl (by rw [hole2_size]; exact Tryd.infoHole2)
  exact bodyPost_ret (v := firstV (holesZ (keptZ z) 0).head?) (res_cell_tmp rfl _ _ _ _ _ rfl rfl hrow) rfl ⟨rfl, HB4.out⟩

set_option maxRecDepth 100000 in
set_option maxHeartbeats 2000000 in
theorem next_pos (b o cap : Nat) (z : Nat → Int) (k : Nat) (w : World) (hT : Tab w b o z) (hr : rightT z = true)  :
    Calls Tryd.prog 39 #[.slice (some ⟨b, o, none⟩) 32 cap, .int .i64 (k : Int)] w fun e w' => e = .returned (firstV (holesZ (keptZ z) k).head?) ∧ Below w.heap.size w w' := by
  have HT := Lib.hid hT
  have HR := Lib.hid hr
  clear hT hr
  go_enter Tryd.func39, Tryd.ntmps39
  go_wp2_with fail
  go_step3
  go_wp2_with (first
    | (go_at_call 46; ((with_reducible refine (look_yes b o cap z _ _ ?_ HR.out).mono ?_)); exact HT.out.below ((Below.refl _ w).alloc (Nat.le_refl _) _); rintro e w1 ⟨rfl, hb1⟩; have bS : Blk w1 w.heap.size #[.int .i64 0, .int .i64 0] 53 := (Blk.new w _ _).below' hb1; have HB1 := Lib.hid (bstep ((Below.refl _ w).alloc (Nat.le_refl _) _) hb1); clear hb1)
    | (refine wpList_store_new rfl 77 _ _ rfl _ (fcells (keptZ z) k) 77 rfl rfl (by rw [fcells_size]; exact Tryd.infoFinder) (by rw [fcells_size]; rfl) (fcells_one _ _) ?_; intro W2 bF bK hB2 hs2; have bS2 := bK _ _ _ bS; have HB2 := Lib.hid (bstep HB1.out hB2); clear bK hB2 hs2)
    | (refine wpList_load_row rfl 77 _ rfl _ rfl 77 _ (0, 0) _ bF Tryd.underlying77 rfl (by rw [fcells_size]; exact Tryd.infoFinder) ?_)
    | (go_at_call 53; ((with_reducible refine (first_none (keptZ z) k _).mono ?_)); rintro e w3 ⟨rfl, hb3⟩; have bS3 := bS2.below' hb3; have HB3 := Lib.hid (bstep HB2.out hb3); clear hb3; unfold firstV)
    | (refine wpList_store_blk rfl 53 _ _ rfl _ _ (hole2 (holesZ (keptZ z) k).head?) 53 bS3 rfl rfl (by rw [hole2_size]; exact Tryd.infoHole2) (by rw [hole2_size]; rfl) (hole2_one _) ?_; intro W4 bR4 bK4 hB4 hs4; have HB4 := Lib.hid (HB3.out.trans (hB4 _ (Nat.le_refl _))); clear bK4 hB4 hs4))
  try rw [Exit.noGoto_ret]
  have hrow := run_loadVar_row (P := Tryd.prog) W4 w.heap.size 53 53 _ (0, 0) _ bR4 Tryd.underlying53 rfl (by rw [hole2_size]; exact Tryd.infoHole2)
  exact bodyPost_ret (v := firstV (holesZ (keptZ z) k).head?) (res_cell_tmp rfl _ _ _ _ _ rfl rfl hrow) rfl ⟨rfl, HB4.out⟩

theorem next_yes (b o cap : Nat) (z : Nat → Int) (f : Int) (w : World) (hT : Tab w b o z) (hr : rightT z = true) :
    Calls Tryd.prog 39 #[.slice (some ⟨b, o, none⟩) 32 cap, .int .i64 f] w fun e w' => e = .returned (firstV (holesZ (keptZ z) (line0 f)).head?) ∧ Below w.heap.size w w' := by
  by_cases hf : f < 0
  · have h0 : line0 f = 0 := by unfold line0; omega
    rw [h0]
    exact next_neg b o cap z f w hT hr hf
  · have h0 : f = (line0 f : Int) := by unfold line0; omega
    have := next_pos b o cap z (line0 f) w hT hr
    rwa [← h0] at this
end Go.Proofs.YtanccoahpcfbnaaDoor
