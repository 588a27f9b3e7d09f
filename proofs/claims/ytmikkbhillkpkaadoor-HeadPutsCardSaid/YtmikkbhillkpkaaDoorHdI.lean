/-
  head.decode: of texts that are not eight bytes long.
-/
import Derived.Test.YtmikkbhillkpkaaDoorHdH
import Derived.RegionTactic
import Derived.BigRegion
namespace Go.Proofs.YtmikkbhillkpkaaDoor
open Go.RowKit Go.Lib Go.Shelf
attribute [local go_sem] Oper.semAt_some
set_option linter.unusedSimpArgs false
set_option linter.unusedVariables false

abbrev mk0 : Array Value := #[.int .i64 0, .int .i64 0, .int .i64 0, .int .i64 0]
theorem bel_set' {w W : World} {B k : Nat} {v : Value} (h : Below w.heap.size w W) (hB : w.heap.size ≤ B) : Below w.heap.size w (W.setCell ⟨B, k, none⟩ v) := h.setCell (p := ⟨B, k, none⟩) hB v
theorem bel_dr' {w W : World} (h : Below w.heap.size w W) : Below w.heap.size w W.drew := h.drew
set_option maxHeartbeats 1000000 in
theorem hdec_len (s : ByteArray) (h : s.size ≠ 8) (w : World) (V : HR) (hV : HV w V) : Calls Tryd.prog 33 #[.string s] w fun e w' => e = .returned (.tuple #[.agg mk0, .iface 118 (.pointer (some V.hH))]) ∧ Below w.heap.size w w' := by
  have cH := hV.cH.1
  have hd : ((s.size : Int) != 8) = true := by simp; omega
  have hgl : 0 < w.heap.size := World.block_lt_of_cell? w _ cH
  clear hV h
  go_enter Tryd.func33, Tryd.ntmps33
  go_wp2
  go_step3
  go_wp2
  go_region
  all_goals
    go_wp2
    try rw [Exit.noGoto_ret]
    refine bodyPost_ret (v := .tuple #[.agg mk0, .iface 118 (.pointer (some V.hH))]) (by simp [results, Tryd.results33, go_sem]) rfl ⟨rfl, ?_⟩
    repeat (first | exact Below.refl _ _ | refine bel_al' ?_ _ | refine bel_set' ?_ (by simp; try omega) | refine bel_dr' ?_)
end Go.Proofs.YtmikkbhillkpkaaDoor
