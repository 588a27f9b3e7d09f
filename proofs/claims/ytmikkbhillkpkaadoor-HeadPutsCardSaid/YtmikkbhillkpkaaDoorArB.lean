/-
  arena.New.
-/
import Derived.Test.YtmikkbhillkpkaaDoorArA
import Derived.Deep.OwnRows
namespace Go.Proofs.YtmikkbhillkpkaaDoor
open Go.RowKit Go.Lib Go.Shelf
attribute [local go_sem] Oper.semAt_some

set_option maxRecDepth 100000 in
theorem new_bad (V : VR) (n m : Int) (w : World) (hV : RV w V) (hm : IntKind.i64.wrap (n - 1) = m) (hn : m < 0 ∨ 32 ≤ m) :
    Calls Tryd.prog 19 #[.int .i64 n] w fun e w' => e = .returned (.tuple #[.pointer none, .int .i64 2]) ∧ Below w.heap.size w w' := by
  have HJ := Lib.hid (Ad.join_bad m 31 127 w V.aA V.aS V.aR hV.av (fun h => by obtain ⟨h1, h2, _⟩ := h; omega))
  have HV := Lib.hid hV
  have hm' := hm
  clear hV hn
  go_enter Tryd.func19, Tryd.ntmps19
  go_wp2_with fail
  ((with_reducible refine HJ.out.mono ?_))
  rintro e w1 ⟨rfl, hb⟩
  replace HV := Lib.hid (HV.out.below hb)
  have HB := Lib.hid hb
  have cG := HV.out.cG.1
  clear hb
  go_wp2_with fail
  ((with_reducible refine (number_arg V _ HV.out).mono ?_))
  rintro e w' ⟨rfl, rfl⟩
  go_wp2
  go_ret2
  exact ⟨rfl, HB.out⟩
/-- So many bytes, all 0. -/
def zbytes (n : Nat) : Array Value := madeCells #[.int .u8 0] n
theorem mkB (n : Nat) (hn : n ≤ 131072) (w : World) : (Instr.makeSlice 34 (.int .i64 (n : Int)) (.int .i64 (n : Int))).run Tryd.prog w = .ok (.slice (some ⟨w.heap.size, 0, none⟩) n n) (w.alloc (.cells (zbytes n) 5)) :=
  run_make_row' 34 5 (.int .u8 0) 1 (by kernel_rfl) (by kernel_rfl) rfl .i64 .i64 n (by omega) (by omega) w
set_option maxRecDepth 100000 in
set_option maxHeartbeats 2000000 in
theorem new_good (V : VR) (b : Nat) (w : World) (hV : RV w V) (h0 : 1 ≤ b) (h1 : b ≤ 32) :
    Calls Tryd.prog 19 #[.int .i64 (b : Int)] w fun e w' => ∃ g, e = .returned (.tuple #[.pointer (some ⟨g + 1, 0, none⟩), .int .i64 0]) ∧ Blk w' g (zbytes (4096 * b)) 5 ∧ Blk w' (g + 1) #[.slice (some ⟨g, 0, none⟩) (4096 * b) (4096 * b)] 77 ∧ Below w.heap.size w w' ∧ w.heap.size ≤ g := by
  have HJ := Lib.hid (Ad.join_ok ((b : Int) - 1) 31 127 w V.aA V.aS V.aR hV.av ⟨by omega, by omega, by omega, by omega, by omega, by omega⟩)
  rw [show 4096 * ((b : Int) - 1) + 128 * 31 + 127 = ((4096 * b : Nat) : Int) - 1 by omega] at HJ
  have hmk := mkB (4096 * b) (by omega)
  have hN : (4096 * b : Nat) ≤ 131072 := by omega
  have hN0 : 1 ≤ 4096 * b := by omega
  generalize 4096 * b = N at HJ hmk hN hN0 ⊢
  have hs : ((N : Int) - 1) + 1 = (N : Int) := by omega
  clear hV
  go_enter Tryd.func19, Tryd.ntmps19
  go_wp2_with fail
  ((with_reducible refine HJ.out.mono ?_))
  rintro e w1 ⟨rfl, hb⟩
  have HB := Lib.hid hb
  clear hb
  go_wp2
  go_ret2
  obtain ⟨b0, b1, hb, _⟩ := blk2 w1 (zbytes N) #[.slice (some ⟨w1.heap.size, 0, none⟩) N N] 5 77
  exact ⟨w1.heap.size, rfl, b0, b1, bstep HB.out hb, HB.out.size⟩
end Go.Proofs.YtmikkbhillkpkaaDoor
