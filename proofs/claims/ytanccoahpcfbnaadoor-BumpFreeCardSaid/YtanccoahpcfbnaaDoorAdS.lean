/-
  addr.Span, where Join is there too.
-/
import Derived.Test.YtanccoahpcfbnaaDoorAdX

namespace Go.Proofs.YtanccoahpcfbnaaDoor.Ad
open Go.RowKit Go.Lib

set_option maxRecDepth 100000 in
set_option maxHeartbeats 1000000 in
theorem span_yes (a n : Int) (w : World) (aA aS aR : Addr) (hV : AV w aA aS aR) (hn : 1 ≤ n) (h : 0 ≤ a) (h' : a < 131072) (hl : n ≤ 131072 - a) :
    Calls Tryd.prog 21 #[.int .i64 a, .int .i64 n] w fun e w' => e = .returned (.tuple #[.int .i64 (a / 128), .int .i64 ((a + n - 1) / 128), .int .i64 0]) ∧ Below w.heap.size w w' := by
  have cX := hV.cA.1
  have hd : decide (n ≤ IntKind.i64.wrap (131072 - a)) = true := by rw [IntWalk.i64_in _ (by omega)]; simpa using hl
  go_enter Tryd.func21, Tryd.ntmps21
  go_wp2_with fail
  go_region_held3 (fun w' => w'.cell? ⟨1, 0, none⟩ = some (.iface 118 (.pointer (some aA))))
    (first | (show World.cell? _ _ = _; repeat' (first | exact cX | refine cell_dr ?_ | refine cell_al _ ?_)))
    (first
      | (go_at_call 40; refine (right_yes a _ h h').mono ?_; rintro e w' ⟨rfl, rfl⟩)
      | (go_at_call 36; refine (unless_any _ aA _).mono ?_; rintro e w' ⟨rfl, rfl⟩)
      | (go_at_call 35; refine (r2_yes aA w).mono ?_; rintro e w' ⟨rfl, rfl⟩))
  go_wp2
  go_ret3
  exact ⟨rfl, (chk2 true true aA w).2.2.2.2.2.2⟩
set_option maxRecDepth 100000 in
set_option maxHeartbeats 1000000 in
theorem span_noL (a n : Int) (w : World) (aA aS aR : Addr) (hV : AV w aA aS aR) (hn : 1 ≤ n) (h : 0 ≤ a) (h' : a < 131072) (hl : 131072 - a < n) :
    Calls Tryd.prog 21 #[.int .i64 a, .int .i64 n] w fun e w' => e = .returned (.tuple #[.int .i64 0, .int .i64 0, .int .i64 10]) ∧ Below w.heap.size w w' := by
  have cX := hV.cA.1
  have hd : decide (n ≤ IntKind.i64.wrap (131072 - a)) = false := by rw [IntWalk.i64_in _ (by omega)]; simpa using hl
  go_enter Tryd.func21, Tryd.ntmps21
  go_wp2_with fail
  go_region_held3 (fun w' => w'.cell? ⟨1, 0, none⟩ = some (.iface 118 (.pointer (some aA))))
    (first | (show World.cell? _ _ = _; repeat' (first | exact cX | refine cell_dr ?_ | refine cell_al _ ?_)))
    (first
      | (go_at_call 40; refine (right_yes a _ h h').mono ?_; rintro e w' ⟨rfl, rfl⟩)
      | (go_at_call 36; refine (unless_any _ aA _).mono ?_; rintro e w' ⟨rfl, rfl⟩)
      | (go_at_call 35; refine (r2_no1 w aA aS aR hV).mono ?_; rintro e w' ⟨rfl, rfl⟩))
  go_wp2
  go_ret3
  exact ⟨rfl, (chk2 true false aA w).2.2.2.2.2.2⟩
set_option maxRecDepth 100000 in
set_option maxHeartbeats 1000000 in
theorem span_noA (a n : Int) (w : World) (aA aS aR : Addr) (hV : AV w aA aS aR) (hn : 1 ≤ n) (h : a < 0 ∨ 131072 ≤ a) :
    Calls Tryd.prog 21 #[.int .i64 a, .int .i64 n] w fun e w' => e = .returned (.tuple #[.int .i64 0, .int .i64 0, .int .i64 10]) ∧ Below w.heap.size w w' := by
  have cX := hV.cA.1
  have H := Lib.hid h
  clear h
  go_enter Tryd.func21, Tryd.ntmps21
  go_wp2_with fail
  go_region_held3 (fun w' => w'.cell? ⟨1, 0, none⟩ = some (.iface 118 (.pointer (some aA))))
    (first | (show World.cell? _ _ = _; repeat' (first | exact cX | refine cell_dr ?_ | refine cell_al _ ?_)))
    (first
      | (go_at_call 40; refine (right_no a _ H.out).mono ?_; rintro e w' ⟨rfl, rfl⟩)
      | (go_at_call 36; refine (unless_any _ aA _).mono ?_; rintro e w' ⟨rfl, rfl⟩)
      | (go_at_call 35; refine (r2_no0 _ w aA aS aR hV).mono ?_; rintro e w' ⟨rfl, rfl⟩))
  go_wp2
  go_ret3
  exact ⟨rfl, (chk2 false _ aA w).2.2.2.2.2.2⟩
end Go.Proofs.YtanccoahpcfbnaaDoor.Ad
