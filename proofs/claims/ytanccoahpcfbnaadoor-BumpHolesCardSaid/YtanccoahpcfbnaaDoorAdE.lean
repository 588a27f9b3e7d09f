/-
  addr.Round.
-/
import Derived.Test.YtanccoahpcfbnaaDoorAdD
import Derived.StillTailTactics
namespace Go.Proofs.YtanccoahpcfbnaaDoor.Ad
open Go.RowKit Go.Lib

set_option maxRecDepth 100000 in
set_option maxHeartbeats 1000000 in
theorem round_no (a : Int) (w : World) (aA aS aR : Addr) (hV : AV w aA aS aR) (h : a < 1 ∨ 131072 < a) :
    Calls Tryd.prog 18 #[.int .i64 a] w fun e w' => e = .returned (.tuple #[.int .i64 0, .int .i64 11]) ∧ Below w.heap.size w w' := by
  have cX := hV.cS.1
  have H := Lib.hid h
  clear h
  go_enter Tryd.func18, Tryd.ntmps18
  go_wp2_with fail
  go_region_held3 (fun w' => w'.cell? ⟨0, 0, none⟩ = some (.iface 118 (.pointer (some aS))))
    (first | (show World.cell? _ _ = _; repeat' (first | exact cX | refine cell_dr ?_ | refine cell_al _ ?_)))
    (first
      | (go_at_call 37; refine (isSize_no a _ H.out).mono ?_; rintro e w' ⟨rfl, rfl⟩)
      | (go_at_call 36; refine (unless_any _ aS _).mono ?_; rintro e w' ⟨rfl, rfl⟩)
      | (go_at_call 35; refine (r1_noS w aA aS aR hV).mono ?_; rintro e w' ⟨rfl, rfl⟩))
  go_wp2
  go_ret2
  exact ⟨rfl, (chk1 false aS w).2.2.2⟩
set_option maxRecDepth 100000 in
set_option maxHeartbeats 1000000 in
theorem round_yes (a : Int) (w : World) (aA aS aR : Addr) (hV : AV w aA aS aR) (h : 1 ≤ a) (h' : a ≤ 131072) :
    Calls Tryd.prog 18 #[.int .i64 a] w fun e w' => e = .returned (.tuple #[.int .i64 ((a + 8 - 1) / 8 * 8), .int .i64 0]) ∧ Below w.heap.size w w' := by
  have cX := hV.cS.1
  go_enter Tryd.func18, Tryd.ntmps18
  go_wp2_with fail
  go_region_held3 (fun w' => w'.cell? ⟨0, 0, none⟩ = some (.iface 118 (.pointer (some aS))))
    (first | (show World.cell? _ _ = _; repeat' (first | exact cX | refine cell_dr ?_ | refine cell_al _ ?_)))
    (first
      | (go_at_call 37; refine (isSize_yes a _ h h').mono ?_; rintro e w' ⟨rfl, rfl⟩)
      | (go_at_call 36; refine (unless_any _ aS _).mono ?_; rintro e w' ⟨rfl, rfl⟩)
      | (go_at_call 35; refine (r1_yes aS w).mono ?_; rintro e w' ⟨rfl, rfl⟩))
  go_wp2
  go_ret2
  exact ⟨rfl, (chk1 true aS w).2.2.2⟩
end Go.Proofs.YtanccoahpcfbnaaDoor.Ad
