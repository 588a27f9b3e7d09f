/-
  hole.Fits: the first hole of a table that has at least so many lines; of no table, or at a number below 1: none.
-/
import Derived.Test.YtgjhdjfjfmbejaaDoorHoleL
namespace Go.Proofs.YtgjhdjfjfmbejaaDoor
open Go.RowKit Go.Lib Go.Shelf
attribute [local go_sem] Oper.semAt_some

/-- The first hole that has at least n lines, if n is a number of lines. -/
def fitO (q : Nat → Bool) (n : Int) : Option (Nat × Nat) := if 1 ≤ n then (holesZ q 0).find? (wantB n) else none

theorem first_want0 (q : Nat → Bool) (n : Int) (N G : Nat) (w : World) (hN : w.cell? ⟨N, 0, none⟩ = some (.int .i64 n)) (hG : w.cell? ⟨G, 0, none⟩ = some (.func (.func 57) #[] #[.pointer (some ⟨N, 0, none⟩)])) :
    Calls Tryd.prog 47 #[.agg (fcells q 0), .slice (some ⟨G, 0, none⟩) 1 1] w fun e w' => e = .returned (firstV ((holesZ q 0).find? (wantB n))) ∧ Below w.heap.size w w' := first_want q 0 n N G w hN hG

set_option maxRecDepth 100000 in
set_option maxHeartbeats 2000000 in
theorem fits_pos (b o cap : Nat) (z : Nat → Int) (n : Int) (w : World) (hT : Tab w b o z) (hr : rightT z = true) (hn : 1 ≤ n) :
    Calls Tryd.prog 42 #[.slice (some ⟨b, o, none⟩) 32 cap, .int .i64 n] w fun e w' => e = .returned (firstV ((holesZ (keptZ z) 0).find? (wantB n))) ∧ Below w.heap.size w w' := by
  have HT := Lib.hid hT
  have HR := Lib.hid hr
  clear hT hr
  obtain ⟨b0, b1, hB0, hsz⟩ := blk2 w #[.int .i64 n] #[.int .i64 0, .int .i64 0] 3 41
  have HB0 := Lib.hid hB0
  have HX0 := Lib.hid b0
  have HX1 := Lib.hid b1
  clear hsz hB0 b0 b1
  go_enter Tryd.func42, Tryd.ntmps42
  go_wp2_with fail
  go_step3
  go_wp2_with (first
    | (go_at_call 46; ((with_reducible refine (look_yes b o cap z 0 _ ?_ HR.out).mono ?_)); exact HT.out.below HB0.out; rintro e w1 ⟨rfl, hb1⟩; have bN := HX0.out.below' hb1; have bS := HX1.out.below' hb1; have HB1 := Lib.hid (bstep HB0.out hb1); clear hb1)
    | (refine wpList_store_new rfl 72 _ _ rfl _ (fcells (keptZ z) 0) 72 rfl rfl (by rw [fcells_size]; exact Tryd.infoFinder) (by rw [fcells_size]; rfl) (fcells_one _ _) ?_; intro W2 bF bK hB2 hs2; have bS2 := bK _ _ _ bS; have bN2 := bK _ _ _ bN; have cN2 := bN2.cell (k := 0) rfl; have HB2 := Lib.hid (bstep HB1.out hB2); clear bK hB2 hs2)
    | (refine wpList_load_row rfl 72 _ rfl _ rfl 72 _ (0, 0) _ bF Tryd.underlying72 rfl (by rw [fcells_size]; exact Tryd.infoFinder) ?_)
    | (go_at_call 47; ((with_reducible refine (first_want0 (keptZ z) n _ _ _ (cell_al _ cN2) ((Blk.new W2 _ _).cell (k := 0) rfl)).mono ?_)); rintro e w3 ⟨rfl, hb3⟩; have bS3 := (bS2.alloc _).below' hb3; have HB3 := Lib.hid (bstep (HB2.out.alloc HB2.out.size _) hb3); clear hb3; unfold firstV)
    | (refine wpList_store_blk rfl 41 _ _ rfl _ _ (hole2 ((holesZ (keptZ z) 0).find? (wantB n))) 41 bS3 rfl rfl (by rw [hole2_size]; exact Tryd.infoHole2) (by rw [hole2_size]; rfl) (hole2_one _) ?_; intro W4 bR4 bK4 hB4 hs4; have HB4 := Lib.hid (HB3.out.trans (hB4 _ (by omega))); clear bK4 hB4 hs4))
  try rw [Exit.noGoto_ret]
  have hrow := run_loadVar_row (P := Tryd.prog) W4 (w.heap.size + 1) 41 41 _ (0, 0) _ bR4 Tryd.underlying41 rfl (by rw [hole2_size]; exact Tryd.infoHole2)
  exact bodyPost_ret (v := firstV ((holesZ (keptZ z) 0).find? (wantB n))) (res_cell_tmp rfl _ _ _ _ _ rfl rfl hrow) rfl ⟨rfl, HB4.out⟩

set_option maxRecDepth 100000 in
set_option maxHeartbeats 2000000 in
theorem fits_low (b o cap : Nat) (z : Nat → Int) (n : Int) (w : World) (hT : Tab w b o z) (hr : rightT z = true) (hn : n < 1) :
    Calls Tryd.prog 42 #[.slice (some ⟨b, o, none⟩) 32 cap, .int .i64 n] w fun e w' => e = .returned (firstV none) ∧ Below w.heap.size w w' := by
  have HT := Lib.hid hT
  have HR := Lib.hid hr
  clear hT hr
  obtain ⟨b0, b1, hB0, hsz⟩ := blk2 w #[.int .i64 n] #[.int .i64 0, .int .i64 0] 3 41
  have HB0 := Lib.hid hB0
  have HX0 := Lib.hid b0
  have HX1 := Lib.hid b1
  clear hsz hB0 b0 b1
  go_enter Tryd.func42, Tryd.ntmps42
  go_wp2_with fail
  refine wp_scope_goto 0 rfl ?_
  go_wp2_with (first
    | (go_at_call 46; ((with_reducible refine (look_yes b o cap z 0 _ ?_ HR.out).mono ?_)); exact HT.out.below HB0.out; rintro e w1 ⟨rfl, hb1⟩; have bN := HX0.out.below' hb1; have bS := HX1.out.below' hb1; have HB1 := Lib.hid (bstep HB0.out hb1); clear hb1)
    | (refine wpList_store_new rfl 72 _ _ rfl _ (fcells (keptZ z) 0) 72 rfl rfl (by rw [fcells_size]; exact Tryd.infoFinder) (by rw [fcells_size]; rfl) (fcells_one _ _) ?_; intro W2 bF bK hB2 hs2; have bS2 := bK _ _ _ bS; have bN2 := bK _ _ _ bN; have cN2 := bN2.cell (k := 0) rfl; have HB2 := Lib.hid (bstep HB1.out hB2); clear bK hB2 hs2))
  go_step3
  refine ⟨rfl, ?_⟩
  dsimp only
  go_wp2_with (refine wpList_store_blk rfl 41 _ _ rfl _ _ (hole2 none) 41 bS2 rfl rfl (by rw [hole2_size]; exact Tryd.infoHole2) (by rw [hole2_size]; rfl) (hole2_one _) ?_; intro W4 bR4 bK4 hB4 hs4; have HB4 := Lib.hid (HB2.out.trans (hB4 _ (by omega))); clear bK4 hB4 hs4)
  try rw [Exit.noGoto_ret]
  have hrow := run_loadVar_row (P := Tryd.prog) W4 (w.heap.size + 1) 41 41 _ (0, 0) _ bR4 Tryd.underlying41 rfl (by rw [hole2_size]; exact Tryd.infoHole2)
  exact bodyPost_ret (v := firstV none) (res_cell_tmp rfl _ _ _ _ _ rfl rfl hrow) rfl ⟨rfl, HB4.out⟩

set_option maxRecDepth 100000 in
set_option maxHeartbeats 2000000 in
theorem fits_no (v : Value) (n : Int) (w : World) (h : NoTab w v) :
    Calls Tryd.prog 42 #[v, .int .i64 n] w fun e w' => e = .returned (firstV none) ∧ Below w.heap.size w w' := by
  have HT := Lib.hid h
  clear h
  obtain ⟨b0, b1, hB0, hsz⟩ := blk2 w #[.int .i64 n] #[.int .i64 0, .int .i64 0] 3 41
  have HB0 := Lib.hid hB0
  have HX0 := Lib.hid b0
  have HX1 := Lib.hid b1
  clear hsz hB0 b0 b1
  go_enter Tryd.func42, Tryd.ntmps42
  go_wp2_with fail
  refine wp_scope_goto 0 rfl ?_
  go_wp2_with (first
    | (go_at_call 46; ((with_reducible refine (look_none v 0 _ ?_).mono ?_)); exact HT.out.below HB0.out; rintro e w1 ⟨rfl, hb1⟩; have bS := HX1.out.below' hb1; have HB1 := Lib.hid (bstep HB0.out hb1); clear hb1)
    | (refine wpList_store_new rfl 72 _ _ rfl _ (fcells (fun _ => false) 0) 72 rfl rfl (by rw [fcells_size]; exact Tryd.infoFinder) (by rfl) (fcells_one _ _) ?_; intro W2 bF bK hB2 hs2; have bS2 := bK _ _ _ bS; have HB2 := Lib.hid (bstep HB1.out hB2); clear bK hB2 hs2))
  go_step3
  refine ⟨rfl, ?_⟩
  dsimp only
  go_wp2_with (refine wpList_store_blk rfl 41 _ _ rfl _ _ (hole2 none) 41 bS2 rfl rfl (by rw [hole2_size]; exact Tryd.infoHole2) (by rw [hole2_size]; rfl) (hole2_one _) ?_; intro W4 bR4 bK4 hB4 hs4; have HB4 := Lib.hid (HB2.out.trans (hB4 _ (by omega))); clear bK4 hB4 hs4)
  try rw [Exit.noGoto_ret]
  have hrow := run_loadVar_row (P := Tryd.prog) W4 (w.heap.size + 1) 41 41 _ (0, 0) _ bR4 Tryd.underlying41 rfl (by rw [hole2_size]; exact Tryd.infoHole2)
  exact bodyPost_ret (v := firstV none) (res_cell_tmp rfl _ _ _ _ _ rfl rfl hrow) rfl ⟨rfl, HB4.out⟩

theorem fits_yes (b o cap : Nat) (z : Nat → Int) (n : Int) (w : World) (hT : Tab w b o z) (hr : rightT z = true) :
    Calls Tryd.prog 42 #[.slice (some ⟨b, o, none⟩) 32 cap, .int .i64 n] w fun e w' => e = .returned (firstV (fitO (keptZ z) n)) ∧ Below w.heap.size w w' := by
  unfold fitO
  by_cases h : 1 ≤ n
  · rw [if_pos h]; exact fits_pos b o cap z n w hT hr h
  · rw [if_neg h]; exact fits_low b o cap z n w hT hr (by omega)
end Go.Proofs.YtgjhdjfjfmbejaaDoor
