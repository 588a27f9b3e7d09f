/-
  selionlaw06.HeadApart, for every input.
-/
import Derived.Test.YtmikkbhillkpkaaDoorHdU
namespace Go.Proofs.YtmikkbhillkpkaaDoor
open Go.RowKit Go.Lib Go.Shelf
attribute [local go_sem] Oper.semAt_some
set_option linter.unusedSimpArgs false
set_option linter.unusedVariables false

set_option maxRecDepth 100000 in
set_option maxHeartbeats 1000000 in
theorem apart_nn (a0 a1 a2 a3 b0 b1 b2 b3 : Int) (hA : ∀ (W : World) (V : HR), HV W V → Calls Tryd.prog 10 #[.agg #[.int .i64 a0, .int .i64 a1, .int .i64 a2, .int .i64 a3]] W fun e w' => e = .returned (.tuple #[.string ⟨#[]⟩, .int .i64 60]) ∧ Below W.heap.size W w') (hB : ∀ (W : World) (V : HR), HV W V → Calls Tryd.prog 10 #[.agg #[.int .i64 b0, .int .i64 b1, .int .i64 b2, .int .i64 b3]] W fun e w' => e = .returned (.tuple #[.string ⟨#[]⟩, .int .i64 60]) ∧ Below W.heap.size W w') (w : World) (V : HR) (hV : HV w V) : Calls Tryd.prog 6 #[.agg #[.int .i64 a0, .int .i64 a1, .int .i64 a2, .int .i64 a3], .agg #[.int .i64 b0, .int .i64 b1, .int .i64 b2, .int .i64 b3]] w fun e w' => e = .returned (.bool true) ∧ Below w.heap.size w w' := by
  have HVV := Lib.hid hV
  have HA := Lib.hid hA
  have HT := Lib.hid hB
  clear hA hB
  have HB := Lib.hid (Below.refl w.heap.size w)
  clear hV
  go_enter Tryd.func6, Tryd.ntmps6
  have HB := Lib.hid (bel_al HB.out (.cells #[.int .i64 a0, .int .i64 a1, .int .i64 a2, .int .i64 a3] 23))
  have KA := Lib.hid (Blk.new w #[.int .i64 a0, .int .i64 a1, .int .i64 a2, .int .i64 a3] 23)
  have HB := Lib.hid (bel_al HB.out (.cells #[.int .i64 b0, .int .i64 b1, .int .i64 b2, .int .i64 b3] 23))
  have KA := Lib.hid (KA.out.alloc (.cells #[.int .i64 b0, .int .i64 b1, .int .i64 b2, .int .i64 b3] 23))
  have KD := Lib.hid (Blk.new (w.alloc (.cells #[.int .i64 a0, .int .i64 a1, .int .i64 a2, .int .i64 a3] 23)) #[.int .i64 b0, .int .i64 b1, .int .i64 b2, .int .i64 b3] 23)
  go_wp2_with fail
  generalize (w.alloc (.cells #[.int .i64 a0, .int .i64 a1, .int .i64 a2, .int .i64 a3] 23)).alloc (.cells #[.int .i64 b0, .int .i64 b1, .int .i64 b2, .int .i64 b3] 23) = v1 at HB KA KD ⊢
  rw [show (w.alloc (.cells #[.int .i64 a0, .int .i64 a1, .int .i64 a2, .int .i64 a3] 23)).heap.size = w.heap.size + 1 by simp] at KD
  ((with_reducible refine (shown06 v1 V (HVV.out.below HB.out)).mono ?_))
  rintro e u2 ⟨rfl, hb⟩
  have HB := Lib.hid (bstep HB.out hb)
  have KA := Lib.hid (KA.out.below' hb)
  have KD := Lib.hid (KD.out.below' hb)
  clear hb
  have ltKA := KA.out.lt
  have cKA0 : u2.cell? ⟨w.heap.size, 0, none⟩ = some (.int .i64 a0) := KA.out.cell rfl
  have cKA1 : u2.cell? ⟨w.heap.size, 1, none⟩ = some (.int .i64 a1) := KA.out.cell rfl
  have cKA2 : u2.cell? ⟨w.heap.size, 2, none⟩ = some (.int .i64 a2) := KA.out.cell rfl
  have cKA3 : u2.cell? ⟨w.heap.size, 3, none⟩ = some (.int .i64 a3) := KA.out.cell rfl
  go_wp2_with fail
  clear ltKA cKA0 cKA1 cKA2 cKA3
  ((with_reducible refine (HA.out u2 V (HVV.out.below HB.out)).mono ?_))
  rintro e u3 ⟨rfl, hb⟩
  have HB := Lib.hid (bstep HB.out hb)
  have KA := Lib.hid (KA.out.below' hb)
  have KD := Lib.hid (KD.out.below' hb)
  clear hb
  have ltKD := KD.out.lt
  have cKD0 : u3.cell? ⟨w.heap.size + 1, 0, none⟩ = some (.int .i64 b0) := KD.out.cell rfl
  have cKD1 : u3.cell? ⟨w.heap.size + 1, 1, none⟩ = some (.int .i64 b1) := KD.out.cell rfl
  have cKD2 : u3.cell? ⟨w.heap.size + 1, 2, none⟩ = some (.int .i64 b2) := KD.out.cell rfl
  have cKD3 : u3.cell? ⟨w.heap.size + 1, 3, none⟩ = some (.int .i64 b3) := KD.out.cell rfl
  go_wp2_with fail
  clear ltKD cKD0 cKD1 cKD2 cKD3
  ((with_reducible refine (HT.out u3 V (HVV.out.below HB.out)).mono ?_))
  rintro e u4 ⟨rfl, hb⟩
  have HB := Lib.hid (bstep HB.out hb)
  have KA := Lib.hid (KA.out.below' hb)
  have KD := Lib.hid (KD.out.below' hb)
  clear hb
  go_wp2
  go_ret
  exact ⟨rfl, HB.out⟩
set_option maxRecDepth 100000 in
set_option maxHeartbeats 1000000 in
theorem apart_ny (a0 a1 a2 a3 b0 b1 b2 b3 : Int) (T : ByteArray) (hT : T.size = 8) (hA : ∀ (W : World) (V : HR), HV W V → Calls Tryd.prog 10 #[.agg #[.int .i64 a0, .int .i64 a1, .int .i64 a2, .int .i64 a3]] W fun e w' => e = .returned (.tuple #[.string ⟨#[]⟩, .int .i64 60]) ∧ Below W.heap.size W w') (hB : ∀ (W : World) (V : HR), HV W V → Calls Tryd.prog 10 #[.agg #[.int .i64 b0, .int .i64 b1, .int .i64 b2, .int .i64 b3]] W fun e w' => e = .returned (.tuple #[.string T, .int .i64 0]) ∧ Below W.heap.size W w') (w : World) (V : HR) (hV : HV w V) : Calls Tryd.prog 6 #[.agg #[.int .i64 a0, .int .i64 a1, .int .i64 a2, .int .i64 a3], .agg #[.int .i64 b0, .int .i64 b1, .int .i64 b2, .int .i64 b3]] w fun e w' => e = .returned (.bool true) ∧ Below w.heap.size w w' := by
  have HVV := Lib.hid hV
  have HA := Lib.hid hA
  have HT := Lib.hid hB
  clear hA hB
  have HB := Lib.hid (Below.refl w.heap.size w)
  clear hV hT
  go_enter Tryd.func6, Tryd.ntmps6
  have HB := Lib.hid (bel_al HB.out (.cells #[.int .i64 a0, .int .i64 a1, .int .i64 a2, .int .i64 a3] 23))
  have KA := Lib.hid (Blk.new w #[.int .i64 a0, .int .i64 a1, .int .i64 a2, .int .i64 a3] 23)
  have HB := Lib.hid (bel_al HB.out (.cells #[.int .i64 b0, .int .i64 b1, .int .i64 b2, .int .i64 b3] 23))
  have KA := Lib.hid (KA.out.alloc (.cells #[.int .i64 b0, .int .i64 b1, .int .i64 b2, .int .i64 b3] 23))
  have KD := Lib.hid (Blk.new (w.alloc (.cells #[.int .i64 a0, .int .i64 a1, .int .i64 a2, .int .i64 a3] 23)) #[.int .i64 b0, .int .i64 b1, .int .i64 b2, .int .i64 b3] 23)
  go_wp2_with fail
  generalize (w.alloc (.cells #[.int .i64 a0, .int .i64 a1, .int .i64 a2, .int .i64 a3] 23)).alloc (.cells #[.int .i64 b0, .int .i64 b1, .int .i64 b2, .int .i64 b3] 23) = v1 at HB KA KD ⊢
  rw [show (w.alloc (.cells #[.int .i64 a0, .int .i64 a1, .int .i64 a2, .int .i64 a3] 23)).heap.size = w.heap.size + 1 by simp] at KD
  ((with_reducible refine (shown06 v1 V (HVV.out.below HB.out)).mono ?_))
  rintro e u2 ⟨rfl, hb⟩
  have HB := Lib.hid (bstep HB.out hb)
  have KA := Lib.hid (KA.out.below' hb)
  have KD := Lib.hid (KD.out.below' hb)
  clear hb
  have ltKA := KA.out.lt
  have cKA0 : u2.cell? ⟨w.heap.size, 0, none⟩ = some (.int .i64 a0) := KA.out.cell rfl
  have cKA1 : u2.cell? ⟨w.heap.size, 1, none⟩ = some (.int .i64 a1) := KA.out.cell rfl
  have cKA2 : u2.cell? ⟨w.heap.size, 2, none⟩ = some (.int .i64 a2) := KA.out.cell rfl
  have cKA3 : u2.cell? ⟨w.heap.size, 3, none⟩ = some (.int .i64 a3) := KA.out.cell rfl
  go_wp2_with fail
  clear ltKA cKA0 cKA1 cKA2 cKA3
  ((with_reducible refine (HA.out u2 V (HVV.out.below HB.out)).mono ?_))
  rintro e u3 ⟨rfl, hb⟩
  have HB := Lib.hid (bstep HB.out hb)
  have KA := Lib.hid (KA.out.below' hb)
  have KD := Lib.hid (KD.out.below' hb)
  clear hb
  have ltKD := KD.out.lt
  have cKD0 : u3.cell? ⟨w.heap.size + 1, 0, none⟩ = some (.int .i64 b0) := KD.out.cell rfl
  have cKD1 : u3.cell? ⟨w.heap.size + 1, 1, none⟩ = some (.int .i64 b1) := KD.out.cell rfl
  have cKD2 : u3.cell? ⟨w.heap.size + 1, 2, none⟩ = some (.int .i64 b2) := KD.out.cell rfl
  have cKD3 : u3.cell? ⟨w.heap.size + 1, 3, none⟩ = some (.int .i64 b3) := KD.out.cell rfl
  go_wp2_with fail
  clear ltKD cKD0 cKD1 cKD2 cKD3
  ((with_reducible refine (HT.out u3 V (HVV.out.below HB.out)).mono ?_))
  rintro e u4 ⟨rfl, hb⟩
  have HB := Lib.hid (bstep HB.out hb)
  have KA := Lib.hid (KA.out.below' hb)
  have KD := Lib.hid (KD.out.below' hb)
  clear hb
  go_wp2
  go_ret
  exact ⟨rfl, HB.out⟩
set_option maxRecDepth 100000 in
set_option maxHeartbeats 1000000 in
theorem apart_yn (a0 a1 a2 a3 b0 b1 b2 b3 : Int) (S : ByteArray) (hS : S.size = 8) (hA : ∀ (W : World) (V : HR), HV W V → Calls Tryd.prog 10 #[.agg #[.int .i64 a0, .int .i64 a1, .int .i64 a2, .int .i64 a3]] W fun e w' => e = .returned (.tuple #[.string S, .int .i64 0]) ∧ Below W.heap.size W w') (hB : ∀ (W : World) (V : HR), HV W V → Calls Tryd.prog 10 #[.agg #[.int .i64 b0, .int .i64 b1, .int .i64 b2, .int .i64 b3]] W fun e w' => e = .returned (.tuple #[.string ⟨#[]⟩, .int .i64 60]) ∧ Below W.heap.size W w') (w : World) (V : HR) (hV : HV w V) : Calls Tryd.prog 6 #[.agg #[.int .i64 a0, .int .i64 a1, .int .i64 a2, .int .i64 a3], .agg #[.int .i64 b0, .int .i64 b1, .int .i64 b2, .int .i64 b3]] w fun e w' => e = .returned (.bool true) ∧ Below w.heap.size w w' := by
  have HVV := Lib.hid hV
  have HA := Lib.hid hA
  have HT := Lib.hid hB
  clear hA hB
  have HB := Lib.hid (Below.refl w.heap.size w)
  clear hV hS
  go_enter Tryd.func6, Tryd.ntmps6
  have HB := Lib.hid (bel_al HB.out (.cells #[.int .i64 a0, .int .i64 a1, .int .i64 a2, .int .i64 a3] 23))
  have KA := Lib.hid (Blk.new w #[.int .i64 a0, .int .i64 a1, .int .i64 a2, .int .i64 a3] 23)
  have HB := Lib.hid (bel_al HB.out (.cells #[.int .i64 b0, .int .i64 b1, .int .i64 b2, .int .i64 b3] 23))
  have KA := Lib.hid (KA.out.alloc (.cells #[.int .i64 b0, .int .i64 b1, .int .i64 b2, .int .i64 b3] 23))
  have KD := Lib.hid (Blk.new (w.alloc (.cells #[.int .i64 a0, .int .i64 a1, .int .i64 a2, .int .i64 a3] 23)) #[.int .i64 b0, .int .i64 b1, .int .i64 b2, .int .i64 b3] 23)
  go_wp2_with fail
  generalize (w.alloc (.cells #[.int .i64 a0, .int .i64 a1, .int .i64 a2, .int .i64 a3] 23)).alloc (.cells #[.int .i64 b0, .int .i64 b1, .int .i64 b2, .int .i64 b3] 23) = v1 at HB KA KD ⊢
  rw [show (w.alloc (.cells #[.int .i64 a0, .int .i64 a1, .int .i64 a2, .int .i64 a3] 23)).heap.size = w.heap.size + 1 by simp] at KD
  ((with_reducible refine (shown06 v1 V (HVV.out.below HB.out)).mono ?_))
  rintro e u2 ⟨rfl, hb⟩
  have HB := Lib.hid (bstep HB.out hb)
  have KA := Lib.hid (KA.out.below' hb)
  have KD := Lib.hid (KD.out.below' hb)
  clear hb
  have ltKA := KA.out.lt
  have cKA0 : u2.cell? ⟨w.heap.size, 0, none⟩ = some (.int .i64 a0) := KA.out.cell rfl
  have cKA1 : u2.cell? ⟨w.heap.size, 1, none⟩ = some (.int .i64 a1) := KA.out.cell rfl
  have cKA2 : u2.cell? ⟨w.heap.size, 2, none⟩ = some (.int .i64 a2) := KA.out.cell rfl
  have cKA3 : u2.cell? ⟨w.heap.size, 3, none⟩ = some (.int .i64 a3) := KA.out.cell rfl
  go_wp2_with fail
  clear ltKA cKA0 cKA1 cKA2 cKA3
  ((with_reducible refine (HA.out u2 V (HVV.out.below HB.out)).mono ?_))
  rintro e u3 ⟨rfl, hb⟩
  have HB := Lib.hid (bstep HB.out hb)
  have KA := Lib.hid (KA.out.below' hb)
  have KD := Lib.hid (KD.out.below' hb)
  clear hb
  have ltKD := KD.out.lt
  have cKD0 : u3.cell? ⟨w.heap.size + 1, 0, none⟩ = some (.int .i64 b0) := KD.out.cell rfl
  have cKD1 : u3.cell? ⟨w.heap.size + 1, 1, none⟩ = some (.int .i64 b1) := KD.out.cell rfl
  have cKD2 : u3.cell? ⟨w.heap.size + 1, 2, none⟩ = some (.int .i64 b2) := KD.out.cell rfl
  have cKD3 : u3.cell? ⟨w.heap.size + 1, 3, none⟩ = some (.int .i64 b3) := KD.out.cell rfl
  go_wp2_with fail
  clear ltKD cKD0 cKD1 cKD2 cKD3
  ((with_reducible refine (HT.out u3 V (HVV.out.below HB.out)).mono ?_))
  rintro e u4 ⟨rfl, hb⟩
  have HB := Lib.hid (bstep HB.out hb)
  have KA := Lib.hid (KA.out.below' hb)
  have KD := Lib.hid (KD.out.below' hb)
  clear hb
  go_wp2
  go_ret
  exact ⟨rfl, HB.out⟩
set_option maxRecDepth 100000 in
set_option maxHeartbeats 1000000 in
theorem apart_eq (a0 a1 a2 a3 : Int) (S : ByteArray) (hS : S.size = 8) (hA : ∀ (W : World) (V : HR), HV W V → Calls Tryd.prog 10 #[.agg #[.int .i64 a0, .int .i64 a1, .int .i64 a2, .int .i64 a3]] W fun e w' => e = .returned (.tuple #[.string S, .int .i64 0]) ∧ Below W.heap.size W w') (hB : ∀ (W : World) (V : HR), HV W V → Calls Tryd.prog 10 #[.agg #[.int .i64 a0, .int .i64 a1, .int .i64 a2, .int .i64 a3]] W fun e w' => e = .returned (.tuple #[.string S, .int .i64 0]) ∧ Below W.heap.size W w') (w : World) (V : HR) (hV : HV w V) : Calls Tryd.prog 6 #[.agg #[.int .i64 a0, .int .i64 a1, .int .i64 a2, .int .i64 a3], .agg #[.int .i64 a0, .int .i64 a1, .int .i64 a2, .int .i64 a3]] w fun e w' => e = .returned (.bool true) ∧ Below w.heap.size w w' := by
  have HVV := Lib.hid hV
  have HA := Lib.hid hA
  have HT := Lib.hid hB
  clear hA hB
  have d0 : ((S.size : Int) == 8) = true := by simp; omega
  have HB := Lib.hid (Below.refl w.heap.size w)
  clear hV hS
  go_enter Tryd.func6, Tryd.ntmps6
  have HB := Lib.hid (bel_al HB.out (.cells #[.int .i64 a0, .int .i64 a1, .int .i64 a2, .int .i64 a3] 23))
  have KA := Lib.hid (Blk.new w #[.int .i64 a0, .int .i64 a1, .int .i64 a2, .int .i64 a3] 23)
  have HB := Lib.hid (bel_al HB.out (.cells #[.int .i64 a0, .int .i64 a1, .int .i64 a2, .int .i64 a3] 23))
  have KA := Lib.hid (KA.out.alloc (.cells #[.int .i64 a0, .int .i64 a1, .int .i64 a2, .int .i64 a3] 23))
  have KD := Lib.hid (Blk.new (w.alloc (.cells #[.int .i64 a0, .int .i64 a1, .int .i64 a2, .int .i64 a3] 23)) #[.int .i64 a0, .int .i64 a1, .int .i64 a2, .int .i64 a3] 23)
  go_wp2_with fail
  generalize (w.alloc (.cells #[.int .i64 a0, .int .i64 a1, .int .i64 a2, .int .i64 a3] 23)).alloc (.cells #[.int .i64 a0, .int .i64 a1, .int .i64 a2, .int .i64 a3] 23) = v1 at HB KA KD ⊢
  rw [show (w.alloc (.cells #[.int .i64 a0, .int .i64 a1, .int .i64 a2, .int .i64 a3] 23)).heap.size = w.heap.size + 1 by simp] at KD
  ((with_reducible refine (shown06 v1 V (HVV.out.below HB.out)).mono ?_))
  rintro e u2 ⟨rfl, hb⟩
  have HB := Lib.hid (bstep HB.out hb)
  have KA := Lib.hid (KA.out.below' hb)
  have KD := Lib.hid (KD.out.below' hb)
  clear hb
  have ltKA := KA.out.lt
  have cKA0 : u2.cell? ⟨w.heap.size, 0, none⟩ = some (.int .i64 a0) := KA.out.cell rfl
  have cKA1 : u2.cell? ⟨w.heap.size, 1, none⟩ = some (.int .i64 a1) := KA.out.cell rfl
  have cKA2 : u2.cell? ⟨w.heap.size, 2, none⟩ = some (.int .i64 a2) := KA.out.cell rfl
  have cKA3 : u2.cell? ⟨w.heap.size, 3, none⟩ = some (.int .i64 a3) := KA.out.cell rfl
  go_wp2_with fail
  clear ltKA cKA0 cKA1 cKA2 cKA3
  ((with_reducible refine (HA.out u2 V (HVV.out.below HB.out)).mono ?_))
  rintro e u3 ⟨rfl, hb⟩
  have HB := Lib.hid (bstep HB.out hb)
  have KA := Lib.hid (KA.out.below' hb)
  have KD := Lib.hid (KD.out.below' hb)
  clear hb
  have ltKD := KD.out.lt
  have cKD0 : u3.cell? ⟨w.heap.size + 1, 0, none⟩ = some (.int .i64 a0) := KD.out.cell rfl
  have cKD1 : u3.cell? ⟨w.heap.size + 1, 1, none⟩ = some (.int .i64 a1) := KD.out.cell rfl
  have cKD2 : u3.cell? ⟨w.heap.size + 1, 2, none⟩ = some (.int .i64 a2) := KD.out.cell rfl
  have cKD3 : u3.cell? ⟨w.heap.size + 1, 3, none⟩ = some (.int .i64 a3) := KD.out.cell rfl
  go_wp2_with fail
  clear ltKD cKD0 cKD1 cKD2 cKD3
  ((with_reducible refine (HT.out u3 V (HVV.out.below HB.out)).mono ?_))
  rintro e u4 ⟨rfl, hb⟩
  have HB := Lib.hid (bstep HB.out hb)
  have KA := Lib.hid (KA.out.below' hb)
  have KD := Lib.hid (KD.out.below' hb)
  clear hb
  have cK0 : u4.cell? ⟨w.heap.size, 0, none⟩ = some (.int .i64 a0) := KA.out.cell rfl
  have cK1 : u4.cell? ⟨w.heap.size, 1, none⟩ = some (.int .i64 a1) := KA.out.cell rfl
  have cK2 : u4.cell? ⟨w.heap.size, 2, none⟩ = some (.int .i64 a2) := KA.out.cell rfl
  have cK3 : u4.cell? ⟨w.heap.size, 3, none⟩ = some (.int .i64 a3) := KA.out.cell rfl
  have cD0 : u4.cell? ⟨w.heap.size + 1, 0, none⟩ = some (.int .i64 a0) := KD.out.cell rfl
  have cD1 : u4.cell? ⟨w.heap.size + 1, 1, none⟩ = some (.int .i64 a1) := KD.out.cell rfl
  have cD2 : u4.cell? ⟨w.heap.size + 1, 2, none⟩ = some (.int .i64 a2) := KD.out.cell rfl
  have cD3 : u4.cell? ⟨w.heap.size + 1, 3, none⟩ = some (.int .i64 a3) := KD.out.cell rfl
  have lt1 := KA.out.lt
  have lt2 := KD.out.lt
  clear HVV HA HT
  go_wp2
  go_ret
  exact ⟨rfl, HB.out⟩
set_option maxRecDepth 100000 in
set_option maxHeartbeats 1000000 in
theorem apart_ne0 (a0 a1 a2 a3 b0 b1 b2 b3 : Int) (S : ByteArray) (T : ByteArray) (hS : S.size = 8) (hT : T.size = 8) (hst : S ≠ T) (hne : a0 ≠ b0) (hA : ∀ (W : World) (V : HR), HV W V → Calls Tryd.prog 10 #[.agg #[.int .i64 a0, .int .i64 a1, .int .i64 a2, .int .i64 a3]] W fun e w' => e = .returned (.tuple #[.string S, .int .i64 0]) ∧ Below W.heap.size W w') (hB : ∀ (W : World) (V : HR), HV W V → Calls Tryd.prog 10 #[.agg #[.int .i64 b0, .int .i64 b1, .int .i64 b2, .int .i64 b3]] W fun e w' => e = .returned (.tuple #[.string T, .int .i64 0]) ∧ Below W.heap.size W w') (w : World) (V : HR) (hV : HV w V) : Calls Tryd.prog 6 #[.agg #[.int .i64 a0, .int .i64 a1, .int .i64 a2, .int .i64 a3], .agg #[.int .i64 b0, .int .i64 b1, .int .i64 b2, .int .i64 b3]] w fun e w' => e = .returned (.bool true) ∧ Below w.heap.size w w' := by
  have HVV := Lib.hid hV
  have HA := Lib.hid hA
  have HT := Lib.hid hB
  clear hA hB
  have d0 : ((S.size : Int) == 8) = true := by simp; omega
  have d1 : ((T.size : Int) == 8) = true := by simp; omega
  have d2 : (a0 == b0) = false := by simpa using hne
  have d3 : (S.toList == T.toList) = false := by rw [beq_eq_false_iff_ne]; exact fun h => hst (ByteArray.ext (Array.toList_inj.1 (by rwa [ByteArray.toList_eq, ByteArray.toList_eq] at h)))
  have HB := Lib.hid (Below.refl w.heap.size w)
  clear hV hS hT hst hne
  go_enter Tryd.func6, Tryd.ntmps6
  have HB := Lib.hid (bel_al HB.out (.cells #[.int .i64 a0, .int .i64 a1, .int .i64 a2, .int .i64 a3] 23))
  have KA := Lib.hid (Blk.new w #[.int .i64 a0, .int .i64 a1, .int .i64 a2, .int .i64 a3] 23)
  have HB := Lib.hid (bel_al HB.out (.cells #[.int .i64 b0, .int .i64 b1, .int .i64 b2, .int .i64 b3] 23))
  have KA := Lib.hid (KA.out.alloc (.cells #[.int .i64 b0, .int .i64 b1, .int .i64 b2, .int .i64 b3] 23))
  have KD := Lib.hid (Blk.new (w.alloc (.cells #[.int .i64 a0, .int .i64 a1, .int .i64 a2, .int .i64 a3] 23)) #[.int .i64 b0, .int .i64 b1, .int .i64 b2, .int .i64 b3] 23)
  go_wp2_with fail
  generalize (w.alloc (.cells #[.int .i64 a0, .int .i64 a1, .int .i64 a2, .int .i64 a3] 23)).alloc (.cells #[.int .i64 b0, .int .i64 b1, .int .i64 b2, .int .i64 b3] 23) = v1 at HB KA KD ⊢
  rw [show (w.alloc (.cells #[.int .i64 a0, .int .i64 a1, .int .i64 a2, .int .i64 a3] 23)).heap.size = w.heap.size + 1 by simp] at KD
  ((with_reducible refine (shown06 v1 V (HVV.out.below HB.out)).mono ?_))
  rintro e u2 ⟨rfl, hb⟩
  have HB := Lib.hid (bstep HB.out hb)
  have KA := Lib.hid (KA.out.below' hb)
  have KD := Lib.hid (KD.out.below' hb)
  clear hb
  have ltKA := KA.out.lt
  have cKA0 : u2.cell? ⟨w.heap.size, 0, none⟩ = some (.int .i64 a0) := KA.out.cell rfl
  have cKA1 : u2.cell? ⟨w.heap.size, 1, none⟩ = some (.int .i64 a1) := KA.out.cell rfl
  have cKA2 : u2.cell? ⟨w.heap.size, 2, none⟩ = some (.int .i64 a2) := KA.out.cell rfl
  have cKA3 : u2.cell? ⟨w.heap.size, 3, none⟩ = some (.int .i64 a3) := KA.out.cell rfl
  go_wp2_with fail
  clear ltKA cKA0 cKA1 cKA2 cKA3
  ((with_reducible refine (HA.out u2 V (HVV.out.below HB.out)).mono ?_))
  rintro e u3 ⟨rfl, hb⟩
  have HB := Lib.hid (bstep HB.out hb)
  have KA := Lib.hid (KA.out.below' hb)
  have KD := Lib.hid (KD.out.below' hb)
  clear hb
  have ltKD := KD.out.lt
  have cKD0 : u3.cell? ⟨w.heap.size + 1, 0, none⟩ = some (.int .i64 b0) := KD.out.cell rfl
  have cKD1 : u3.cell? ⟨w.heap.size + 1, 1, none⟩ = some (.int .i64 b1) := KD.out.cell rfl
  have cKD2 : u3.cell? ⟨w.heap.size + 1, 2, none⟩ = some (.int .i64 b2) := KD.out.cell rfl
  have cKD3 : u3.cell? ⟨w.heap.size + 1, 3, none⟩ = some (.int .i64 b3) := KD.out.cell rfl
  go_wp2_with fail
  clear ltKD cKD0 cKD1 cKD2 cKD3
  ((with_reducible refine (HT.out u3 V (HVV.out.below HB.out)).mono ?_))
  rintro e u4 ⟨rfl, hb⟩
  have HB := Lib.hid (bstep HB.out hb)
  have KA := Lib.hid (KA.out.below' hb)
  have KD := Lib.hid (KD.out.below' hb)
  clear hb
  have cK0 : u4.cell? ⟨w.heap.size, 0, none⟩ = some (.int .i64 a0) := KA.out.cell rfl
  have cK1 : u4.cell? ⟨w.heap.size, 1, none⟩ = some (.int .i64 a1) := KA.out.cell rfl
  have cK2 : u4.cell? ⟨w.heap.size, 2, none⟩ = some (.int .i64 a2) := KA.out.cell rfl
  have cK3 : u4.cell? ⟨w.heap.size, 3, none⟩ = some (.int .i64 a3) := KA.out.cell rfl
  have cD0 : u4.cell? ⟨w.heap.size + 1, 0, none⟩ = some (.int .i64 b0) := KD.out.cell rfl
  have cD1 : u4.cell? ⟨w.heap.size + 1, 1, none⟩ = some (.int .i64 b1) := KD.out.cell rfl
  have cD2 : u4.cell? ⟨w.heap.size + 1, 2, none⟩ = some (.int .i64 b2) := KD.out.cell rfl
  have cD3 : u4.cell? ⟨w.heap.size + 1, 3, none⟩ = some (.int .i64 b3) := KD.out.cell rfl
  have lt1 := KA.out.lt
  have lt2 := KD.out.lt
  clear HVV HA HT
  go_wp2
  go_ret
  exact ⟨rfl, HB.out⟩
set_option maxRecDepth 100000 in
set_option maxHeartbeats 1000000 in
theorem apart_ne1 (a0 a1 a2 a3 b1 b2 b3 : Int) (S : ByteArray) (T : ByteArray) (hS : S.size = 8) (hT : T.size = 8) (hst : S ≠ T) (hne : a1 ≠ b1) (hA : ∀ (W : World) (V : HR), HV W V → Calls Tryd.prog 10 #[.agg #[.int .i64 a0, .int .i64 a1, .int .i64 a2, .int .i64 a3]] W fun e w' => e = .returned (.tuple #[.string S, .int .i64 0]) ∧ Below W.heap.size W w') (hB : ∀ (W : World) (V : HR), HV W V → Calls Tryd.prog 10 #[.agg #[.int .i64 a0, .int .i64 b1, .int .i64 b2, .int .i64 b3]] W fun e w' => e = .returned (.tuple #[.string T, .int .i64 0]) ∧ Below W.heap.size W w') (w : World) (V : HR) (hV : HV w V) : Calls Tryd.prog 6 #[.agg #[.int .i64 a0, .int .i64 a1, .int .i64 a2, .int .i64 a3], .agg #[.int .i64 a0, .int .i64 b1, .int .i64 b2, .int .i64 b3]] w fun e w' => e = .returned (.bool true) ∧ Below w.heap.size w w' := by
  have HVV := Lib.hid hV
  have HA := Lib.hid hA
  have HT := Lib.hid hB
  clear hA hB
  have d0 : ((S.size : Int) == 8) = true := by simp; omega
  have d1 : ((T.size : Int) == 8) = true := by simp; omega
  have d2 : (a1 == b1) = false := by simpa using hne
  have d3 : (S.toList == T.toList) = false := by rw [beq_eq_false_iff_ne]; exact fun h => hst (ByteArray.ext (Array.toList_inj.1 (by rwa [ByteArray.toList_eq, ByteArray.toList_eq] at h)))
  have HB := Lib.hid (Below.refl w.heap.size w)
  clear hV hS hT hst hne
  go_enter Tryd.func6, Tryd.ntmps6
  have HB := Lib.hid (bel_al HB.out (.cells #[.int .i64 a0, .int .i64 a1, .int .i64 a2, .int .i64 a3] 23))
  have KA := Lib.hid (Blk.new w #[.int .i64 a0, .int .i64 a1, .int .i64 a2, .int .i64 a3] 23)
  have HB := Lib.hid (bel_al HB.out (.cells #[.int .i64 a0, .int .i64 b1, .int .i64 b2, .int .i64 b3] 23))
  have KA := Lib.hid (KA.out.alloc (.cells #[.int .i64 a0, .int .i64 b1, .int .i64 b2, .int .i64 b3] 23))
  have KD := Lib.hid (Blk.new (w.alloc (.cells #[.int .i64 a0, .int .i64 a1, .int .i64 a2, .int .i64 a3] 23)) #[.int .i64 a0, .int .i64 b1, .int .i64 b2, .int .i64 b3] 23)
  go_wp2_with fail
  generalize (w.alloc (.cells #[.int .i64 a0, .int .i64 a1, .int .i64 a2, .int .i64 a3] 23)).alloc (.cells #[.int .i64 a0, .int .i64 b1, .int .i64 b2, .int .i64 b3] 23) = v1 at HB KA KD ⊢
  rw [show (w.alloc (.cells #[.int .i64 a0, .int .i64 a1, .int .i64 a2, .int .i64 a3] 23)).heap.size = w.heap.size + 1 by simp] at KD
  ((with_reducible refine (shown06 v1 V (HVV.out.below HB.out)).mono ?_))
  rintro e u2 ⟨rfl, hb⟩
  have HB := Lib.hid (bstep HB.out hb)
  have KA := Lib.hid (KA.out.below' hb)
  have KD := Lib.hid (KD.out.below' hb)
  clear hb
  have ltKA := KA.out.lt
  have cKA0 : u2.cell? ⟨w.heap.size, 0, none⟩ = some (.int .i64 a0) := KA.out.cell rfl
  have cKA1 : u2.cell? ⟨w.heap.size, 1, none⟩ = some (.int .i64 a1) := KA.out.cell rfl
  have cKA2 : u2.cell? ⟨w.heap.size, 2, none⟩ = some (.int .i64 a2) := KA.out.cell rfl
  have cKA3 : u2.cell? ⟨w.heap.size, 3, none⟩ = some (.int .i64 a3) := KA.out.cell rfl
  go_wp2_with fail
  clear ltKA cKA0 cKA1 cKA2 cKA3
  ((with_reducible refine (HA.out u2 V (HVV.out.below HB.out)).mono ?_))
  rintro e u3 ⟨rfl, hb⟩
  have HB := Lib.hid (bstep HB.out hb)
  have KA := Lib.hid (KA.out.below' hb)
  have KD := Lib.hid (KD.out.below' hb)
  clear hb
  have ltKD := KD.out.lt
  have cKD0 : u3.cell? ⟨w.heap.size + 1, 0, none⟩ = some (.int .i64 a0) := KD.out.cell rfl
  have cKD1 : u3.cell? ⟨w.heap.size + 1, 1, none⟩ = some (.int .i64 b1) := KD.out.cell rfl
  have cKD2 : u3.cell? ⟨w.heap.size + 1, 2, none⟩ = some (.int .i64 b2) := KD.out.cell rfl
  have cKD3 : u3.cell? ⟨w.heap.size + 1, 3, none⟩ = some (.int .i64 b3) := KD.out.cell rfl
  go_wp2_with fail
  clear ltKD cKD0 cKD1 cKD2 cKD3
  ((with_reducible refine (HT.out u3 V (HVV.out.below HB.out)).mono ?_))
  rintro e u4 ⟨rfl, hb⟩
  have HB := Lib.hid (bstep HB.out hb)
  have KA := Lib.hid (KA.out.below' hb)
  have KD := Lib.hid (KD.out.below' hb)
  clear hb
  have cK0 : u4.cell? ⟨w.heap.size, 0, none⟩ = some (.int .i64 a0) := KA.out.cell rfl
  have cK1 : u4.cell? ⟨w.heap.size, 1, none⟩ = some (.int .i64 a1) := KA.out.cell rfl
  have cK2 : u4.cell? ⟨w.heap.size, 2, none⟩ = some (.int .i64 a2) := KA.out.cell rfl
  have cK3 : u4.cell? ⟨w.heap.size, 3, none⟩ = some (.int .i64 a3) := KA.out.cell rfl
  have cD0 : u4.cell? ⟨w.heap.size + 1, 0, none⟩ = some (.int .i64 a0) := KD.out.cell rfl
  have cD1 : u4.cell? ⟨w.heap.size + 1, 1, none⟩ = some (.int .i64 b1) := KD.out.cell rfl
  have cD2 : u4.cell? ⟨w.heap.size + 1, 2, none⟩ = some (.int .i64 b2) := KD.out.cell rfl
  have cD3 : u4.cell? ⟨w.heap.size + 1, 3, none⟩ = some (.int .i64 b3) := KD.out.cell rfl
  have lt1 := KA.out.lt
  have lt2 := KD.out.lt
  clear HVV HA HT
  go_wp2
  go_ret
  exact ⟨rfl, HB.out⟩
set_option maxRecDepth 100000 in
set_option maxHeartbeats 1000000 in
theorem apart_ne2 (a0 a1 a2 a3 b2 b3 : Int) (S : ByteArray) (T : ByteArray) (hS : S.size = 8) (hT : T.size = 8) (hst : S ≠ T) (hne : a2 ≠ b2) (hA : ∀ (W : World) (V : HR), HV W V → Calls Tryd.prog 10 #[.agg #[.int .i64 a0, .int .i64 a1, .int .i64 a2, .int .i64 a3]] W fun e w' => e = .returned (.tuple #[.string S, .int .i64 0]) ∧ Below W.heap.size W w') (hB : ∀ (W : World) (V : HR), HV W V → Calls Tryd.prog 10 #[.agg #[.int .i64 a0, .int .i64 a1, .int .i64 b2, .int .i64 b3]] W fun e w' => e = .returned (.tuple #[.string T, .int .i64 0]) ∧ Below W.heap.size W w') (w : World) (V : HR) (hV : HV w V) : Calls Tryd.prog 6 #[.agg #[.int .i64 a0, .int .i64 a1, .int .i64 a2, .int .i64 a3], .agg #[.int .i64 a0, .int .i64 a1, .int .i64 b2, .int .i64 b3]] w fun e w' => e = .returned (.bool true) ∧ Below w.heap.size w w' := by
  have HVV := Lib.hid hV
  have HA := Lib.hid hA
  have HT := Lib.hid hB
  clear hA hB
  have d0 : ((S.size : Int) == 8) = true := by simp; omega
  have d1 : ((T.size : Int) == 8) = true := by simp; omega
  have d2 : (a2 == b2) = false := by simpa using hne
  have d3 : (S.toList == T.toList) = false := by rw [beq_eq_false_iff_ne]; exact fun h => hst (ByteArray.ext (Array.toList_inj.1 (by rwa [ByteArray.toList_eq, ByteArray.toList_eq] at h)))
  have HB := Lib.hid (Below.refl w.heap.size w)
  clear hV hS hT hst hne
  go_enter Tryd.func6, Tryd.ntmps6
  have HB := Lib.hid (bel_al HB.out (.cells #[.int .i64 a0, .int .i64 a1, .int .i64 a2, .int .i64 a3] 23))
  have KA := Lib.hid (Blk.new w #[.int .i64 a0, .int .i64 a1, .int .i64 a2, .int .i64 a3] 23)
  have HB := Lib.hid (bel_al HB.out (.cells #[.int .i64 a0, .int .i64 a1, .int .i64 b2, .int .i64 b3] 23))
  have KA := Lib.hid (KA.out.alloc (.cells #[.int .i64 a0, .int .i64 a1, .int .i64 b2, .int .i64 b3] 23))
  have KD := Lib.hid (Blk.new (w.alloc (.cells #[.int .i64 a0, .int .i64 a1, .int .i64 a2, .int .i64 a3] 23)) #[.int .i64 a0, .int .i64 a1, .int .i64 b2, .int .i64 b3] 23)
  go_wp2_with fail
  generalize (w.alloc (.cells #[.int .i64 a0, .int .i64 a1, .int .i64 a2, .int .i64 a3] 23)).alloc (.cells #[.int .i64 a0, .int .i64 a1, .int .i64 b2, .int .i64 b3] 23) = v1 at HB KA KD ⊢
  rw [show (w.alloc (.cells #[.int .i64 a0, .int .i64 a1, .int .i64 a2, .int .i64 a3] 23)).heap.size = w.heap.size + 1 by simp] at KD
  ((with_reducible refine (shown06 v1 V (HVV.out.below HB.out)).mono ?_))
  rintro e u2 ⟨rfl, hb⟩
  have HB := Lib.hid (bstep HB.out hb)
  have KA := Lib.hid (KA.out.below' hb)
  have KD := Lib.hid (KD.out.below' hb)
  clear hb
  have ltKA := KA.out.lt
  have cKA0 : u2.cell? ⟨w.heap.size, 0, none⟩ = some (.int .i64 a0) := KA.out.cell rfl
  have cKA1 : u2.cell? ⟨w.heap.size, 1, none⟩ = some (.int .i64 a1) := KA.out.cell rfl
  have cKA2 : u2.cell? ⟨w.heap.size, 2, none⟩ = some (.int .i64 a2) := KA.out.cell rfl
  have cKA3 : u2.cell? ⟨w.heap.size, 3, none⟩ = some (.int .i64 a3) := KA.out.cell rfl
  go_wp2_with fail
  clear ltKA cKA0 cKA1 cKA2 cKA3
  ((with_reducible refine (HA.out u2 V (HVV.out.below HB.out)).mono ?_))
  rintro e u3 ⟨rfl, hb⟩
  have HB := Lib.hid (bstep HB.out hb)
  have KA := Lib.hid (KA.out.below' hb)
  have KD := Lib.hid (KD.out.below' hb)
  clear hb
  have ltKD := KD.out.lt
  have cKD0 : u3.cell? ⟨w.heap.size + 1, 0, none⟩ = some (.int .i64 a0) := KD.out.cell rfl
  have cKD1 : u3.cell? ⟨w.heap.size + 1, 1, none⟩ = some (.int .i64 a1) := KD.out.cell rfl
  have cKD2 : u3.cell? ⟨w.heap.size + 1, 2, none⟩ = some (.int .i64 b2) := KD.out.cell rfl
  have cKD3 : u3.cell? ⟨w.heap.size + 1, 3, none⟩ = some (.int .i64 b3) := KD.out.cell rfl
  go_wp2_with fail
  clear ltKD cKD0 cKD1 cKD2 cKD3
  ((with_reducible refine (HT.out u3 V (HVV.out.below HB.out)).mono ?_))
  rintro e u4 ⟨rfl, hb⟩
  have HB := Lib.hid (bstep HB.out hb)
  have KA := Lib.hid (KA.out.below' hb)
  have KD := Lib.hid (KD.out.below' hb)
  clear hb
  have cK0 : u4.cell? ⟨w.heap.size, 0, none⟩ = some (.int .i64 a0) := KA.out.cell rfl
  have cK1 : u4.cell? ⟨w.heap.size, 1, none⟩ = some (.int .i64 a1) := KA.out.cell rfl
  have cK2 : u4.cell? ⟨w.heap.size, 2, none⟩ = some (.int .i64 a2) := KA.out.cell rfl
  have cK3 : u4.cell? ⟨w.heap.size, 3, none⟩ = some (.int .i64 a3) := KA.out.cell rfl
  have cD0 : u4.cell? ⟨w.heap.size + 1, 0, none⟩ = some (.int .i64 a0) := KD.out.cell rfl
  have cD1 : u4.cell? ⟨w.heap.size + 1, 1, none⟩ = some (.int .i64 a1) := KD.out.cell rfl
  have cD2 : u4.cell? ⟨w.heap.size + 1, 2, none⟩ = some (.int .i64 b2) := KD.out.cell rfl
  have cD3 : u4.cell? ⟨w.heap.size + 1, 3, none⟩ = some (.int .i64 b3) := KD.out.cell rfl
  have lt1 := KA.out.lt
  have lt2 := KD.out.lt
  clear HVV HA HT
  go_wp2
  go_ret
  exact ⟨rfl, HB.out⟩
set_option maxRecDepth 100000 in
set_option maxHeartbeats 1000000 in
theorem apart_ne3 (a0 a1 a2 a3 b3 : Int) (S : ByteArray) (T : ByteArray) (hS : S.size = 8) (hT : T.size = 8) (hst : S ≠ T) (hne : a3 ≠ b3) (hA : ∀ (W : World) (V : HR), HV W V → Calls Tryd.prog 10 #[.agg #[.int .i64 a0, .int .i64 a1, .int .i64 a2, .int .i64 a3]] W fun e w' => e = .returned (.tuple #[.string S, .int .i64 0]) ∧ Below W.heap.size W w') (hB : ∀ (W : World) (V : HR), HV W V → Calls Tryd.prog 10 #[.agg #[.int .i64 a0, .int .i64 a1, .int .i64 a2, .int .i64 b3]] W fun e w' => e = .returned (.tuple #[.string T, .int .i64 0]) ∧ Below W.heap.size W w') (w : World) (V : HR) (hV : HV w V) : Calls Tryd.prog 6 #[.agg #[.int .i64 a0, .int .i64 a1, .int .i64 a2, .int .i64 a3], .agg #[.int .i64 a0, .int .i64 a1, .int .i64 a2, .int .i64 b3]] w fun e w' => e = .returned (.bool true) ∧ Below w.heap.size w w' := by
  have HVV := Lib.hid hV
  have HA := Lib.hid hA
  have HT := Lib.hid hB
  clear hA hB
  have d0 : ((S.size : Int) == 8) = true := by simp; omega
  have d1 : ((T.size : Int) == 8) = true := by simp; omega
  have d2 : (a3 == b3) = false := by simpa using hne
  have d3 : (S.toList == T.toList) = false := by rw [beq_eq_false_iff_ne]; exact fun h => hst (ByteArray.ext (Array.toList_inj.1 (by rwa [ByteArray.toList_eq, ByteArray.toList_eq] at h)))
  have HB := Lib.hid (Below.refl w.heap.size w)
  clear hV hS hT hst hne
  go_enter Tryd.func6, Tryd.ntmps6
  have HB := Lib.hid (bel_al HB.out (.cells #[.int .i64 a0, .int .i64 a1, .int .i64 a2, .int .i64 a3] 23))
  have KA := Lib.hid (Blk.new w #[.int .i64 a0, .int .i64 a1, .int .i64 a2, .int .i64 a3] 23)
  have HB := Lib.hid (bel_al HB.out (.cells #[.int .i64 a0, .int .i64 a1, .int .i64 a2, .int .i64 b3] 23))
  have KA := Lib.hid (KA.out.alloc (.cells #[.int .i64 a0, .int .i64 a1, .int .i64 a2, .int .i64 b3] 23))
  have KD := Lib.hid (Blk.new (w.alloc (.cells #[.int .i64 a0, .int .i64 a1, .int .i64 a2, .int .i64 a3] 23)) #[.int .i64 a0, .int .i64 a1, .int .i64 a2, .int .i64 b3] 23)
  go_wp2_with fail
  generalize (w.alloc (.cells #[.int .i64 a0, .int .i64 a1, .int .i64 a2, .int .i64 a3] 23)).alloc (.cells #[.int .i64 a0, .int .i64 a1, .int .i64 a2, .int .i64 b3] 23) = v1 at HB KA KD ⊢
  rw [show (w.alloc (.cells #[.int .i64 a0, .int .i64 a1, .int .i64 a2, .int .i64 a3] 23)).heap.size = w.heap.size + 1 by simp] at KD
  ((with_reducible refine (shown06 v1 V (HVV.out.below HB.out)).mono ?_))
  rintro e u2 ⟨rfl, hb⟩
  have HB := Lib.hid (bstep HB.out hb)
  have KA := Lib.hid (KA.out.below' hb)
  have KD := Lib.hid (KD.out.below' hb)
  clear hb
  have ltKA := KA.out.lt
  have cKA0 : u2.cell? ⟨w.heap.size, 0, none⟩ = some (.int .i64 a0) := KA.out.cell rfl
  have cKA1 : u2.cell? ⟨w.heap.size, 1, none⟩ = some (.int .i64 a1) := KA.out.cell rfl
  have cKA2 : u2.cell? ⟨w.heap.size, 2, none⟩ = some (.int .i64 a2) := KA.out.cell rfl
  have cKA3 : u2.cell? ⟨w.heap.size, 3, none⟩ = some (.int .i64 a3) := KA.out.cell rfl
  go_wp2_with fail
  clear ltKA cKA0 cKA1 cKA2 cKA3
  ((with_reducible refine (HA.out u2 V (HVV.out.below HB.out)).mono ?_))
  rintro e u3 ⟨rfl, hb⟩
  have HB := Lib.hid (bstep HB.out hb)
  have KA := Lib.hid (KA.out.below' hb)
  have KD := Lib.hid (KD.out.below' hb)
  clear hb
  have ltKD := KD.out.lt
  have cKD0 : u3.cell? ⟨w.heap.size + 1, 0, none⟩ = some (.int .i64 a0) := KD.out.cell rfl
  have cKD1 : u3.cell? ⟨w.heap.size + 1, 1, none⟩ = some (.int .i64 a1) := KD.out.cell rfl
  have cKD2 : u3.cell? ⟨w.heap.size + 1, 2, none⟩ = some (.int .i64 a2) := KD.out.cell rfl
  have cKD3 : u3.cell? ⟨w.heap.size + 1, 3, none⟩ = some (.int .i64 b3) := KD.out.cell rfl
  go_wp2_with fail
  clear ltKD cKD0 cKD1 cKD2 cKD3
  ((with_reducible refine (HT.out u3 V (HVV.out.below HB.out)).mono ?_))
  rintro e u4 ⟨rfl, hb⟩
  have HB := Lib.hid (bstep HB.out hb)
  have KA := Lib.hid (KA.out.below' hb)
  have KD := Lib.hid (KD.out.below' hb)
  clear hb
  have cK0 : u4.cell? ⟨w.heap.size, 0, none⟩ = some (.int .i64 a0) := KA.out.cell rfl
  have cK1 : u4.cell? ⟨w.heap.size, 1, none⟩ = some (.int .i64 a1) := KA.out.cell rfl
  have cK2 : u4.cell? ⟨w.heap.size, 2, none⟩ = some (.int .i64 a2) := KA.out.cell rfl
  have cK3 : u4.cell? ⟨w.heap.size, 3, none⟩ = some (.int .i64 a3) := KA.out.cell rfl
  have cD0 : u4.cell? ⟨w.heap.size + 1, 0, none⟩ = some (.int .i64 a0) := KD.out.cell rfl
  have cD1 : u4.cell? ⟨w.heap.size + 1, 1, none⟩ = some (.int .i64 a1) := KD.out.cell rfl
  have cD2 : u4.cell? ⟨w.heap.size + 1, 2, none⟩ = some (.int .i64 a2) := KD.out.cell rfl
  have cD3 : u4.cell? ⟨w.heap.size + 1, 3, none⟩ = some (.int .i64 b3) := KD.out.cell rfl
  have lt1 := KA.out.lt
  have lt2 := KD.out.lt
  clear HVV HA HT
  go_wp2
  go_ret
  exact ⟨rfl, HB.out⟩
theorem hd8_size (K L C E : Nat) : (⟨(hd8 K L C E).toArray⟩ : ByteArray).size = 8 := hd8_len K L C E
theorem lawHeadApart (x y : Mk) (w : World) (V : HR) (hV : HV w V) : Calls Tryd.prog 6 #[.agg (mkA x), .agg (mkA y)] w fun e w' => e = .returned (.bool true) ∧ Below w.heap.size w w' := by
  rcases mk_split x with hx | ⟨K, L, C, E, rfl, hK, hL, hC, hE⟩ <;> rcases mk_split y with hy | ⟨K', L', C', E', rfl, hK', hL', hC', hE'⟩
  · exact apart_nn _ _ _ _ _ _ _ _ (fun W V h => henc_no x hx W V h) (fun W V h => henc_no y hy W V h) w V hV
  · exact apart_ny _ _ _ _ _ _ _ _ _ (hd8_size K' L' C' E') (fun W V h => henc_no x hx W V h) (fun W V h => henc_yes K' L' C' E' hK' hL' hC' hE' W V h) w V hV
  · exact apart_yn _ _ _ _ _ _ _ _ _ (hd8_size K L C E) (fun W V h => henc_yes K L C E hK hL hC hE W V h) (fun W V h => henc_no y hy W V h) w V hV
  · have hA := fun W V h => henc_yes K L C E hK hL hC hE W V h
    have hB := fun W V h => henc_yes K' L' C' E' hK' hL' hC' hE' W V h
    have hst : ¬ (K = K' ∧ L = L' ∧ C = C' ∧ E = E') → (⟨(hd8 K L C E).toArray⟩ : ByteArray) ≠ ⟨(hd8 K' L' C' E').toArray⟩ := fun hn he => by
      injection he with he
      exact hn (hd8_inj hK.2 hL hC.2 hE hK'.2 hL' hC'.2 hE' (by simpa using congrArg Array.toList he))
    by_cases h0 : K = K'
    · subst h0
      by_cases h1 : L = L'
      · subst h1
        by_cases h2 : C = C'
        · subst h2
          by_cases h3 : E = E'
          · subst h3
            exact apart_eq _ _ _ _ _ (hd8_size K L C E) hA hB w V hV
          · exact apart_ne3 _ _ _ _ _ _ _ (hd8_size ..) (hd8_size ..) (hst (fun h => h3 h.2.2.2)) (fun e => h3 (Int.ofNat_inj.1 e)) hA hB w V hV
        · exact apart_ne2 _ _ _ _ _ _ _ _ (hd8_size ..) (hd8_size ..) (hst (fun h => h2 h.2.2.1)) (fun e => h2 (Int.ofNat_inj.1 e)) hA hB w V hV
      · exact apart_ne1 _ _ _ _ _ _ _ _ _ (hd8_size ..) (hd8_size ..) (hst (fun h => h1 h.2.1)) (fun e => h1 (Int.ofNat_inj.1 e)) hA hB w V hV
    · exact apart_ne0 _ _ _ _ _ _ _ _ _ _ (hd8_size ..) (hd8_size ..) (hst (fun h => h0 h.1)) (fun e => h0 (Int.ofNat_inj.1 e)) hA hB w V hV
end Go.Proofs.YtmikkbhillkpkaaDoor
