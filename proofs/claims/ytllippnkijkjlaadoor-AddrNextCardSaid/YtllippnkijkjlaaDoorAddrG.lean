/-
  addr.Span where the number of bytes is below 1: the number of ErrAddr; what lay in memory stays. (The walk goes over every order of one drawn region: some four minutes.)
-/
import Derived.Test.YtllippnkijkjlaaDoorAddrF
import Derived.Deep.RegionWith
namespace Go.Proofs.YtllippnkijkjlaaDoor
open Go.RowKit Go.Lib
set_option maxRecDepth 100000 in
set_option maxHeartbeats 8000000 in
theorem span_noN (a n : Int) (w : World) (aA aS aR : Addr) (hV : AV w aA aS aR) (hn : n < 1) :
    Calls Tryd.prog 26 #[.int .i64 a, .int .i64 n] w fun e w' => e = .returned (.tuple #[.int .i64 0, .int .i64 0, .int .i64 10]) ∧ Below w.heap.size w w' := by
  have cX := hV.cA.1
  have keepA : ∀ (W : World) (o : Obj), W.cell? ⟨0, 0, none⟩ = some (.iface 69 (.pointer (some aA))) → (W.alloc o).cell? ⟨0, 0, none⟩ = some (.iface 69 (.pointer (some aA))) := fun _ o h => cell_al o h
  have hd : decide (1 ≤ n) = false := by simpa using hn
  have HV := Lib.hid hV
  clear hV
  go_enter Tryd.func26, Tryd.ntmps26
  go_wp2_with fail
  first | go_region_with (first
      | (go_at_call 31; ((with_reducible refine (unless_any _ aA _).mono ?_)); rintro e w' ⟨rfl, rfl⟩)
      | (go_at_call 30; ((with_reducible refine (r2_no0 _ w aA aS aR HV.out).mono ?_)); rintro e w' ⟨rfl, rfl⟩)) | fail
  all_goals go_wp2
  all_goals go_ret3
  all_goals exact ⟨rfl, (chk2 false _ aA w).2.2.2.2.2.2⟩
end Go.Proofs.YtllippnkijkjlaaDoor
