/-
  head.load.
-/
import Derived.Test.YtmikkbhillkpkaaDoorHdS
import Derived.Test.YtmikkbhillkpkaaDoorArE
namespace Go.Proofs.YtmikkbhillkpkaaDoor
open Go.RowKit Go.Lib Go.Shelf
attribute [local go_sem] Oper.semAt_some
set_option linter.unusedSimpArgs false
set_option linter.unusedVariables false

set_option maxRecDepth 100000 in
set_option maxHeartbeats 1000000 in
theorem hload_odd (V : HR) (p : Nat) (f : Int) (w : World) (hV : HV w V) (h : f.tmod 8 ≠ 0) : Calls Tryd.prog 38 #[.pointer (some ⟨p, 0, none⟩), .int .i64 f] w fun e w' => e = .returned (.tuple #[.string ⟨#[]⟩, .iface 118 (.pointer (some V.hA))]) ∧ Below w.heap.size w w' := by
  have cA := hV.cA.1
  have hgl : 3 < w.heap.size := World.block_lt_of_cell? w _ cA
  have hd : (f.tmod 8 != 0) = true := by simpa using h
  clear h
  have HB := Lib.hid (Below.refl w.heap.size w)
  clear hV
  go_enter Tryd.func38, Tryd.ntmps38
  go_wp2
  go_quiet (fail)
  have HB := Lib.hid (Ad.below_drewN HB.out nq)
  go_wp2
  go_ret2
  exact ⟨rfl, HB.out⟩
set_option maxRecDepth 100000 in
set_option maxHeartbeats 1000000 in
theorem hload_bad (V : HR) (R : VR) (p g : Nat) (bs : List UInt8) (f : Int) (w : World) (hV : HV w V) (hR : RV w R) (hA : Ar w p g bs) (hf : InI f) (h8 : f.tmod 8 = 0) (h : ¬ okB bs.length f 8 1) : Calls Tryd.prog 38 #[.pointer (some ⟨p, 0, none⟩), .int .i64 f] w fun e w' => e = .returned (.tuple #[.string ⟨#[]⟩, .iface 118 (.pointer (some V.hA))]) ∧ Below w.heap.size w w' := by
  have HR := Lib.hid (read_bad R p g bs f 8 w hR hA hf h)
  have HVV := Lib.hid hV
  have hd : (f.tmod 8 != 0) = false := by simpa using h8
  clear h h8 hV hR hA hf
  go_enter Tryd.func38, Tryd.ntmps38
  go_wp2_with fail
  ((with_reducible refine HR.out.mono ?_))
  rintro e u1 ⟨rfl, hb⟩
  have HB := Lib.hid hb
  have cA := (HVV.out.below hb).cA.1
  have hgl : 3 < u1.heap.size := World.block_lt_of_cell? u1 _ cA
  clear hb
  go_wp2
  go_quiet (fail)
  have HB := Lib.hid (Ad.below_drewN HB.out nq)
  go_wp2
  go_ret2
  exact ⟨rfl, HB.out⟩
set_option maxRecDepth 100000 in
set_option maxHeartbeats 1000000 in
theorem hload_ok (p g : Nat) (bs : List UInt8) (i : Nat) (w : World) (hA : Ar w p g bs) (h8 : i % 8 = 0) (hi : i + 8 ≤ bs.length) : Calls Tryd.prog 38 #[.pointer (some ⟨p, 0, none⟩), .int .i64 (i : Int)] w fun e w' => e = .returned (.tuple #[.string ⟨((bs.drop i).take 8).toArray⟩, .nilIface]) ∧ Below w.heap.size w w' := by
  have hr := read_ok p g bs i 8 w hA hi
  generalize (⟨((bs.drop i).take 8).toArray⟩ : ByteArray) = t at hr ⊢
  have hr' : Calls Tryd.prog 27 #[.pointer (some ⟨p, 0, none⟩), .int .i64 (i : Int), .int .i64 8] w fun e w' => e = .returned (.tuple #[.string t, .int .i64 0]) ∧ Below w.heap.size w w' := hr
  have hd : ((i : Int).tmod 8 != 0) = false := by
    have : (i : Int).tmod 8 = 0 := by rw [Int.tmod_eq_emod_of_nonneg (by omega)]; omega
    simpa using this
  clear h8 hi hA hr
  generalize (i : Int) = f at hr' hd ⊢
  have HR := Lib.hid hr'
  clear hr'
  go_enter Tryd.func38, Tryd.ntmps38
  go_wp2_with fail
  ((with_reducible refine HR.out.mono ?_))
  rintro e u1 ⟨rfl, hb⟩
  have HB := Lib.hid hb
  clear hb
  go_wp2
  go_ret2
  exact ⟨rfl, HB.out⟩
end Go.Proofs.YtmikkbhillkpkaaDoor
