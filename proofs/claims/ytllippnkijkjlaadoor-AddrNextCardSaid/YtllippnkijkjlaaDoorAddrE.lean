/-
  addr.Round, addr.Blocks, addr.Ref, addr.Addr, for every number; what lay in memory stays.
-/
import Derived.Test.YtllippnkijkjlaaDoorAddrD
import Derived.StillTailTactics
namespace Go.Proofs.YtllippnkijkjlaaDoor
open Go.RowKit Go.Lib

set_option maxRecDepth 100000 in
set_option maxHeartbeats 1000000 in
theorem round_no (a : Int) (w : World) (aA aS aR : Addr) (hV : AV w aA aS aR) (h : a < 1 ∨ 131072 < a) :
    Calls Tryd.prog 18 #[.int .i64 a] w fun e w' => e = .returned (.tuple #[.int .i64 0, .int .i64 11]) ∧ Below w.heap.size w w' := by
  have cX := hV.cS.1
  have H := Lib.hid h
  clear h
  go_enter Tryd.func18, Tryd.ntmps18
  go_wp2_with fail
  go_region_held3 (fun w' => w'.cell? ⟨2, 0, none⟩ = some (.iface 69 (.pointer (some aS))))
    (first | (show World.cell? _ _ = _; repeat' (first | exact cX | refine cell_dr ?_ | refine cell_al _ ?_)))
    (first
      | (go_at_call 33; refine (isSize_no a _ H.out).mono ?_; rintro e w' ⟨rfl, rfl⟩)
      | (go_at_call 31; refine (unless_any _ aS _).mono ?_; rintro e w' ⟨rfl, rfl⟩)
      | (go_at_call 30; refine (r1_noS w aA aS aR hV).mono ?_; rintro e w' ⟨rfl, rfl⟩))
  go_wp2
  go_ret2
  exact ⟨rfl, (chk1 false aS w).2.2.2⟩

set_option maxRecDepth 100000 in
set_option maxHeartbeats 1000000 in
theorem round_yes (a : Int) (w : World) (aA aS aR : Addr) (hV : AV w aA aS aR) (h : 1 ≤ a) (h' : a ≤ 131072) :
    Calls Tryd.prog 18 #[.int .i64 a] w fun e w' => e = .returned (.tuple #[.int .i64 ((a + 8 - 1) / 8 * 8), .int .i64 0]) ∧ Below w.heap.size w w' := by
  have cX := hV.cS.1
  go_enter Tryd.func18, Tryd.ntmps18
  go_wp2_with fail
  go_region_held3 (fun w' => w'.cell? ⟨2, 0, none⟩ = some (.iface 69 (.pointer (some aS))))
    (first | (show World.cell? _ _ = _; repeat' (first | exact cX | refine cell_dr ?_ | refine cell_al _ ?_)))
    (first
      | (go_at_call 33; refine (isSize_yes a _ h h').mono ?_; rintro e w' ⟨rfl, rfl⟩)
      | (go_at_call 31; refine (unless_any _ aS _).mono ?_; rintro e w' ⟨rfl, rfl⟩)
      | (go_at_call 30; refine (r1_yes aS w).mono ?_; rintro e w' ⟨rfl, rfl⟩))
  go_wp2
  go_ret2
  exact ⟨rfl, (chk1 true aS w).2.2.2⟩

set_option maxRecDepth 100000 in
set_option maxHeartbeats 1000000 in
theorem blocks_no (a : Int) (w : World) (aA aS aR : Addr) (hV : AV w aA aS aR) (h : a < 1 ∨ 131072 < a) :
    Calls Tryd.prog 22 #[.int .i64 a] w fun e w' => e = .returned (.tuple #[.int .i64 0, .int .i64 11]) ∧ Below w.heap.size w w' := by
  have cX := hV.cS.1
  have H := Lib.hid h
  clear h
  go_enter Tryd.func22, Tryd.ntmps22
  go_wp2_with fail
  go_region_held3 (fun w' => w'.cell? ⟨2, 0, none⟩ = some (.iface 69 (.pointer (some aS))))
    (first | (show World.cell? _ _ = _; repeat' (first | exact cX | refine cell_dr ?_ | refine cell_al _ ?_)))
    (first
      | (go_at_call 33; refine (isSize_no a _ H.out).mono ?_; rintro e w' ⟨rfl, rfl⟩)
      | (go_at_call 31; refine (unless_any _ aS _).mono ?_; rintro e w' ⟨rfl, rfl⟩)
      | (go_at_call 30; refine (r1_noS w aA aS aR hV).mono ?_; rintro e w' ⟨rfl, rfl⟩))
  go_wp2
  go_ret2
  exact ⟨rfl, (chk1 false aS w).2.2.2⟩

set_option maxRecDepth 100000 in
set_option maxHeartbeats 1000000 in
theorem blocks_yes (a : Int) (w : World) (aA aS aR : Addr) (hV : AV w aA aS aR) (h : 1 ≤ a) (h' : a ≤ 131072) :
    Calls Tryd.prog 22 #[.int .i64 a] w fun e w' => e = .returned (.tuple #[.int .i64 ((a + 4096 - 1) / 4096), .int .i64 0]) ∧ Below w.heap.size w w' := by
  have cX := hV.cS.1
  go_enter Tryd.func22, Tryd.ntmps22
  go_wp2_with fail
  go_region_held3 (fun w' => w'.cell? ⟨2, 0, none⟩ = some (.iface 69 (.pointer (some aS))))
    (first | (show World.cell? _ _ = _; repeat' (first | exact cX | refine cell_dr ?_ | refine cell_al _ ?_)))
    (first
      | (go_at_call 33; refine (isSize_yes a _ h h').mono ?_; rintro e w' ⟨rfl, rfl⟩)
      | (go_at_call 31; refine (unless_any _ aS _).mono ?_; rintro e w' ⟨rfl, rfl⟩)
      | (go_at_call 30; refine (r1_yes aS w).mono ?_; rintro e w' ⟨rfl, rfl⟩))
  go_wp2
  go_ret2
  exact ⟨rfl, (chk1 true aS w).2.2.2⟩

set_option maxRecDepth 100000 in
set_option maxHeartbeats 1000000 in
theorem ref_noR (a : Int) (w : World) (aA aS aR : Addr) (hV : AV w aA aS aR) (h : a < 0 ∨ 131072 ≤ a) :
    Calls Tryd.prog 24 #[.int .i64 a] w fun e w' => e = .returned (.tuple #[.int .i64 0, .int .i64 10]) ∧ Below w.heap.size w w' := by
  have cX := hV.cA.1
  have H := Lib.hid h
  clear h
  go_enter Tryd.func24, Tryd.ntmps24
  go_wp2_with fail
  refine wp_region_still_tail 8 (by kernel_rfl) (by kernel_rfl) ?_
  simp only [List.take_succ_cons, List.take_zero, List.drop_succ_cons, List.drop_zero]
  still_step
  still_call ((right_no a _ H.out).mono (fun _ _ h => ⟨h.1, h.2.symm⟩))
  repeat still_step
  refine wpStill_nil ?_
  change wpList _ _ _ _ _ w.drew
  have hb2 : Below w.heap.size w w.drew := (Below.refl _ _).drew
  generalize w.drew = w2 at hb2 ⊢
  have HB2 := Lib.hid hb2
  clear hb2
  go_wp2_with (first | (go_at_call 31; refine (unless_any _ aA _).mono ?_; rintro e w' ⟨rfl, rfl⟩) | (go_at_call 30; refine (p1_noA w2 aA aS aR (hV.below HB2.out)).mono ?_; rintro e w' ⟨rfl, rfl⟩))
  go_ret2
  exact ⟨rfl, bstep HB2.out (chk1p false aA w2).2.2.2⟩

set_option maxRecDepth 100000 in
set_option maxHeartbeats 1000000 in
theorem ref_noM (a : Int) (w : World) (aA aS aR : Addr) (hV : AV w aA aS aR) (h : 0 ≤ a) (h' : a < 131072) (hm : a % 8 ≠ 0) :
    Calls Tryd.prog 24 #[.int .i64 a] w fun e w' => e = .returned (.tuple #[.int .i64 0, .int .i64 10]) ∧ Below w.heap.size w w' := by
  have cX := hV.cA.1
  have e8 : (a.tmod 8 == 0) = false := by rw [Int.tmod_eq_emod_of_nonneg h]; simpa using hm
  have e9 : (a % 8 == 0) = false := by simpa using hm
  clear hm
  go_enter Tryd.func24, Tryd.ntmps24
  go_wp2_with fail
  go_region_held3 (fun w' => w'.cell? ⟨0, 0, none⟩ = some (.iface 69 (.pointer (some aA))))
    (first | (show World.cell? _ _ = _; repeat' (first | exact cX | refine cell_dr ?_ | refine cell_al _ ?_)))
    (first
      | (go_at_call 16; refine (right_yes a _ h h').mono ?_; rintro e w' ⟨rfl, rfl⟩)
      | (go_at_call 31; refine (unless_any _ aA _).mono ?_; rintro e w' ⟨rfl, rfl⟩)
      | (go_at_call 30; refine (r1_noA w aA aS aR hV).mono ?_; rintro e w' ⟨rfl, rfl⟩))
  go_wp2
  go_ret2
  exact ⟨rfl, (chk1 false aA w).2.2.2⟩

set_option maxRecDepth 100000 in
set_option maxHeartbeats 1000000 in
theorem ref_yes (a : Int) (w : World) (aA aS aR : Addr) (hV : AV w aA aS aR) (h : 0 ≤ a) (h' : a < 131072) (hm : a % 8 = 0) :
    Calls Tryd.prog 24 #[.int .i64 a] w fun e w' => e = .returned (.tuple #[.int .i64 (a / 8 + 1), .int .i64 0]) ∧ Below w.heap.size w w' := by
  have cX := hV.cA.1
  have e8 : (a.tmod 8 == 0) = true := by rw [Int.tmod_eq_emod_of_nonneg h]; simpa using hm
  have e9 : (a % 8 == 0) = true := by simpa using hm
  clear hm
  go_enter Tryd.func24, Tryd.ntmps24
  go_wp2_with fail
  go_region_held3 (fun w' => w'.cell? ⟨0, 0, none⟩ = some (.iface 69 (.pointer (some aA))))
    (first | (show World.cell? _ _ = _; repeat' (first | exact cX | refine cell_dr ?_ | refine cell_al _ ?_)))
    (first
      | (go_at_call 16; refine (right_yes a _ h h').mono ?_; rintro e w' ⟨rfl, rfl⟩)
      | (go_at_call 31; refine (unless_any _ aA _).mono ?_; rintro e w' ⟨rfl, rfl⟩)
      | (go_at_call 30; refine (r1_yes aA w).mono ?_; rintro e w' ⟨rfl, rfl⟩))
  go_wp2
  go_ret2
  exact ⟨rfl, (chk1 true aA w).2.2.2⟩

set_option maxRecDepth 100000 in
theorem addr_no1 (a : Int) (w : World) (aA aS aR : Addr) (hV : AV w aA aS aR) (h : a < 1) :
    Calls Tryd.prog 25 #[.int .i64 a] w fun e w' => e = .returned (.tuple #[.int .i64 0, .int .i64 12]) ∧ Below w.heap.size w w' := by
  have cX := hV.cR.1
  go_enter Tryd.func25, Tryd.ntmps25
  go_wp2_with (first | (go_at_call 31; refine (unless_any _ aR _).mono ?_; rintro e w' ⟨rfl, rfl⟩) | (go_at_call 30; refine (p1_noR w aA aS aR hV).mono ?_; rintro e w' ⟨rfl, rfl⟩))
  go_ret2
  exact ⟨rfl, (chk1p false aR w).2.2.2⟩

set_option maxRecDepth 100000 in
theorem addr_no2 (a : Int) (w : World) (aA aS aR : Addr) (hV : AV w aA aS aR) (h : 1 ≤ a) (h' : 16384 < a) :
    Calls Tryd.prog 25 #[.int .i64 a] w fun e w' => e = .returned (.tuple #[.int .i64 0, .int .i64 12]) ∧ Below w.heap.size w w' := by
  have cX := hV.cR.1
  have hd : decide (a ≤ 16384) = false := by simpa using h'
  go_enter Tryd.func25, Tryd.ntmps25
  go_wp2_with (first | (go_at_call 31; refine (unless_any _ aR _).mono ?_; rintro e w' ⟨rfl, rfl⟩) | (go_at_call 30; refine (p1_noR w aA aS aR hV).mono ?_; rintro e w' ⟨rfl, rfl⟩))
  go_ret2
  exact ⟨rfl, (chk1p false aR w).2.2.2⟩

set_option maxRecDepth 100000 in
theorem addr_yes (a : Int) (w : World) (aA aS aR : Addr) (hV : AV w aA aS aR) (h : 1 ≤ a) (h' : a ≤ 16384) :
    Calls Tryd.prog 25 #[.int .i64 a] w fun e w' => e = .returned (.tuple #[.int .i64 ((a - 1) * 8), .int .i64 0]) ∧ Below w.heap.size w w' := by
  have cX := hV.cR.1
  go_enter Tryd.func25, Tryd.ntmps25
  go_wp2_with (first | (go_at_call 31; refine (unless_any _ aR _).mono ?_; rintro e w' ⟨rfl, rfl⟩) | (go_at_call 30; refine (p1_yes aR w).mono ?_; rintro e w' ⟨rfl, rfl⟩))
  go_ret2
  exact ⟨rfl, (chk1p true aR w).2.2.2⟩

end Go.Proofs.YtllippnkijkjlaaDoor
