/-
  selionlaw06.HeadByte, for every input.
-/
import Derived.Test.YtmikkbhillkpkaaDoorHdU
import Derived.Test.YtmikkbhillkpkaaDoorRfA
namespace Go.Proofs.YtmikkbhillkpkaaDoor
open Go.RowKit Go.Lib Go.Shelf
attribute [local go_sem] Oper.semAt_some
set_option linter.unusedSimpArgs false
set_option linter.unusedVariables false

set_option maxRecDepth 100000 in
set_option maxHeartbeats 1000000 in
theorem byte_n (a0 a1 a2 a3 i d : Int) (hA : ∀ (W : World) (V : HR), HV W V → Calls Tryd.prog 10 #[.agg #[.int .i64 a0, .int .i64 a1, .int .i64 a2, .int .i64 a3]] W fun e w' => e = .returned (.tuple #[.string ⟨#[]⟩, .int .i64 60]) ∧ Below W.heap.size W w') (w : World) (V : HR) (hV : HV w V) : Calls Tryd.prog 4 #[.agg #[.int .i64 a0, .int .i64 a1, .int .i64 a2, .int .i64 a3], .int .i64 i, .int .i64 d] w fun e w' => e = .returned (.bool true) ∧ Below w.heap.size w w' := by
  have HVV := Lib.hid hV
  have HA := Lib.hid hA
  clear hA
  have HB := Lib.hid (Below.refl w.heap.size w)
  clear hV
  go_enter Tryd.func4, Tryd.ntmps4
  have HB := Lib.hid (bel_al HB.out (.cells #[.int .i64 a0, .int .i64 a1, .int .i64 a2, .int .i64 a3] 23))
  have KA := Lib.hid (Blk.new w #[.int .i64 a0, .int .i64 a1, .int .i64 a2, .int .i64 a3] 23)
  go_wp2_with fail
  generalize w.alloc (.cells #[.int .i64 a0, .int .i64 a1, .int .i64 a2, .int .i64 a3] 23) = v1 at HB KA ⊢
  ((with_reducible refine (shown06 v1 V (HVV.out.below HB.out)).mono ?_))
  rintro e u2 ⟨rfl, hb⟩
  have HB := Lib.hid (bstep HB.out hb)
  have KA := Lib.hid (KA.out.below' hb)
  clear hb
  have ltKA := KA.out.lt
  have cKA0 : u2.cell? ⟨w.heap.size, 0, none⟩ = some (.int .i64 a0) := KA.out.cell rfl
  have cKA1 : u2.cell? ⟨w.heap.size, 1, none⟩ = some (.int .i64 a1) := KA.out.cell rfl
  have cKA2 : u2.cell? ⟨w.heap.size, 2, none⟩ = some (.int .i64 a2) := KA.out.cell rfl
  have cKA3 : u2.cell? ⟨w.heap.size, 3, none⟩ = some (.int .i64 a3) := KA.out.cell rfl
  go_wp2_with fail
  clear ltKA cKA0 cKA1 cKA2 cKA3
  ((with_reducible refine (HA.out u2 V (HVV.out.below HB.out)).mono ?_))
  rintro e u3 ⟨rfl, hb⟩
  have HB := Lib.hid (bstep HB.out hb)
  have KA := Lib.hid (KA.out.below' hb)
  clear hb
  go_wp2
  go_ret
  exact ⟨rfl, HB.out⟩
set_option maxRecDepth 100000 in
set_option maxHeartbeats 1000000 in
theorem byte_i0 (a0 a1 a2 a3 i d : Int) (S : ByteArray) (hS : S.size = 8) (h : i < 0) (hA : ∀ (W : World) (V : HR), HV W V → Calls Tryd.prog 10 #[.agg #[.int .i64 a0, .int .i64 a1, .int .i64 a2, .int .i64 a3]] W fun e w' => e = .returned (.tuple #[.string S, .int .i64 0]) ∧ Below W.heap.size W w') (w : World) (V : HR) (hV : HV w V) : Calls Tryd.prog 4 #[.agg #[.int .i64 a0, .int .i64 a1, .int .i64 a2, .int .i64 a3], .int .i64 i, .int .i64 d] w fun e w' => e = .returned (.bool true) ∧ Below w.heap.size w w' := by
  have HVV := Lib.hid hV
  have HA := Lib.hid hA
  clear hA
  have d0 : decide (i < 0) = true := by simp; omega
  have HB := Lib.hid (Below.refl w.heap.size w)
  clear hV hS h
  go_enter Tryd.func4, Tryd.ntmps4
  have HB := Lib.hid (bel_al HB.out (.cells #[.int .i64 a0, .int .i64 a1, .int .i64 a2, .int .i64 a3] 23))
  have KA := Lib.hid (Blk.new w #[.int .i64 a0, .int .i64 a1, .int .i64 a2, .int .i64 a3] 23)
  go_wp2_with fail
  generalize w.alloc (.cells #[.int .i64 a0, .int .i64 a1, .int .i64 a2, .int .i64 a3] 23) = v1 at HB KA ⊢
  ((with_reducible refine (shown06 v1 V (HVV.out.below HB.out)).mono ?_))
  rintro e u2 ⟨rfl, hb⟩
  have HB := Lib.hid (bstep HB.out hb)
  have KA := Lib.hid (KA.out.below' hb)
  clear hb
  have ltKA := KA.out.lt
  have cKA0 : u2.cell? ⟨w.heap.size, 0, none⟩ = some (.int .i64 a0) := KA.out.cell rfl
  have cKA1 : u2.cell? ⟨w.heap.size, 1, none⟩ = some (.int .i64 a1) := KA.out.cell rfl
  have cKA2 : u2.cell? ⟨w.heap.size, 2, none⟩ = some (.int .i64 a2) := KA.out.cell rfl
  have cKA3 : u2.cell? ⟨w.heap.size, 3, none⟩ = some (.int .i64 a3) := KA.out.cell rfl
  go_wp2_with fail
  clear ltKA cKA0 cKA1 cKA2 cKA3
  ((with_reducible refine (HA.out u2 V (HVV.out.below HB.out)).mono ?_))
  rintro e u3 ⟨rfl, hb⟩
  have HB := Lib.hid (bstep HB.out hb)
  have KA := Lib.hid (KA.out.below' hb)
  clear hb
  go_wp2
  go_ret
  exact ⟨rfl, HB.out⟩
set_option maxRecDepth 100000 in
set_option maxHeartbeats 1000000 in
theorem byte_i8 (a0 a1 a2 a3 i d : Int) (S : ByteArray) (hS : S.size = 8) (h : 8 ≤ i) (hA : ∀ (W : World) (V : HR), HV W V → Calls Tryd.prog 10 #[.agg #[.int .i64 a0, .int .i64 a1, .int .i64 a2, .int .i64 a3]] W fun e w' => e = .returned (.tuple #[.string S, .int .i64 0]) ∧ Below W.heap.size W w') (w : World) (V : HR) (hV : HV w V) : Calls Tryd.prog 4 #[.agg #[.int .i64 a0, .int .i64 a1, .int .i64 a2, .int .i64 a3], .int .i64 i, .int .i64 d] w fun e w' => e = .returned (.bool true) ∧ Below w.heap.size w w' := by
  have HVV := Lib.hid hV
  have HA := Lib.hid hA
  clear hA
  have d0 : decide (i < 0) = false := by simp; omega
  have d1 : decide ((S.size : Int) ≤ i) = true := by simp; omega
  have HB := Lib.hid (Below.refl w.heap.size w)
  clear hV hS h
  go_enter Tryd.func4, Tryd.ntmps4
  have HB := Lib.hid (bel_al HB.out (.cells #[.int .i64 a0, .int .i64 a1, .int .i64 a2, .int .i64 a3] 23))
  have KA := Lib.hid (Blk.new w #[.int .i64 a0, .int .i64 a1, .int .i64 a2, .int .i64 a3] 23)
  go_wp2_with fail
  generalize w.alloc (.cells #[.int .i64 a0, .int .i64 a1, .int .i64 a2, .int .i64 a3] 23) = v1 at HB KA ⊢
  ((with_reducible refine (shown06 v1 V (HVV.out.below HB.out)).mono ?_))
  rintro e u2 ⟨rfl, hb⟩
  have HB := Lib.hid (bstep HB.out hb)
  have KA := Lib.hid (KA.out.below' hb)
  clear hb
  have ltKA := KA.out.lt
  have cKA0 : u2.cell? ⟨w.heap.size, 0, none⟩ = some (.int .i64 a0) := KA.out.cell rfl
  have cKA1 : u2.cell? ⟨w.heap.size, 1, none⟩ = some (.int .i64 a1) := KA.out.cell rfl
  have cKA2 : u2.cell? ⟨w.heap.size, 2, none⟩ = some (.int .i64 a2) := KA.out.cell rfl
  have cKA3 : u2.cell? ⟨w.heap.size, 3, none⟩ = some (.int .i64 a3) := KA.out.cell rfl
  go_wp2_with fail
  clear ltKA cKA0 cKA1 cKA2 cKA3
  ((with_reducible refine (HA.out u2 V (HVV.out.below HB.out)).mono ?_))
  rintro e u3 ⟨rfl, hb⟩
  have HB := Lib.hid (bstep HB.out hb)
  have KA := Lib.hid (KA.out.below' hb)
  clear hb
  go_wp2
  go_ret
  exact ⟨rfl, HB.out⟩
set_option maxRecDepth 100000 in
set_option maxHeartbeats 1000000 in
theorem byte_d0 (a0 a1 a2 a3 i d : Int) (S : ByteArray) (hS : S.size = 8) (h : 0 ≤ i ∧ i < 8) (hd : d < 1) (hA : ∀ (W : World) (V : HR), HV W V → Calls Tryd.prog 10 #[.agg #[.int .i64 a0, .int .i64 a1, .int .i64 a2, .int .i64 a3]] W fun e w' => e = .returned (.tuple #[.string S, .int .i64 0]) ∧ Below W.heap.size W w') (w : World) (V : HR) (hV : HV w V) : Calls Tryd.prog 4 #[.agg #[.int .i64 a0, .int .i64 a1, .int .i64 a2, .int .i64 a3], .int .i64 i, .int .i64 d] w fun e w' => e = .returned (.bool true) ∧ Below w.heap.size w w' := by
  have HVV := Lib.hid hV
  have HA := Lib.hid hA
  clear hA
  have d0 : decide (i < 0) = false := by simp; omega
  have d1 : decide ((S.size : Int) ≤ i) = false := by simp; omega
  have d2 : decide (d < 1) = true := by simp; omega
  have HB := Lib.hid (Below.refl w.heap.size w)
  clear hV hS h hd
  go_enter Tryd.func4, Tryd.ntmps4
  have HB := Lib.hid (bel_al HB.out (.cells #[.int .i64 a0, .int .i64 a1, .int .i64 a2, .int .i64 a3] 23))
  have KA := Lib.hid (Blk.new w #[.int .i64 a0, .int .i64 a1, .int .i64 a2, .int .i64 a3] 23)
  go_wp2_with fail
  generalize w.alloc (.cells #[.int .i64 a0, .int .i64 a1, .int .i64 a2, .int .i64 a3] 23) = v1 at HB KA ⊢
  ((with_reducible refine (shown06 v1 V (HVV.out.below HB.out)).mono ?_))
  rintro e u2 ⟨rfl, hb⟩
  have HB := Lib.hid (bstep HB.out hb)
  have KA := Lib.hid (KA.out.below' hb)
  clear hb
  have ltKA := KA.out.lt
  have cKA0 : u2.cell? ⟨w.heap.size, 0, none⟩ = some (.int .i64 a0) := KA.out.cell rfl
  have cKA1 : u2.cell? ⟨w.heap.size, 1, none⟩ = some (.int .i64 a1) := KA.out.cell rfl
  have cKA2 : u2.cell? ⟨w.heap.size, 2, none⟩ = some (.int .i64 a2) := KA.out.cell rfl
  have cKA3 : u2.cell? ⟨w.heap.size, 3, none⟩ = some (.int .i64 a3) := KA.out.cell rfl
  go_wp2_with fail
  clear ltKA cKA0 cKA1 cKA2 cKA3
  ((with_reducible refine (HA.out u2 V (HVV.out.below HB.out)).mono ?_))
  rintro e u3 ⟨rfl, hb⟩
  have HB := Lib.hid (bstep HB.out hb)
  have KA := Lib.hid (KA.out.below' hb)
  clear hb
  go_wp2
  go_ret
  exact ⟨rfl, HB.out⟩
set_option maxRecDepth 100000 in
set_option maxHeartbeats 1000000 in
theorem byte_d9 (a0 a1 a2 a3 i d : Int) (S : ByteArray) (hS : S.size = 8) (h : 0 ≤ i ∧ i < 8) (hd : 255 < d) (hA : ∀ (W : World) (V : HR), HV W V → Calls Tryd.prog 10 #[.agg #[.int .i64 a0, .int .i64 a1, .int .i64 a2, .int .i64 a3]] W fun e w' => e = .returned (.tuple #[.string S, .int .i64 0]) ∧ Below W.heap.size W w') (w : World) (V : HR) (hV : HV w V) : Calls Tryd.prog 4 #[.agg #[.int .i64 a0, .int .i64 a1, .int .i64 a2, .int .i64 a3], .int .i64 i, .int .i64 d] w fun e w' => e = .returned (.bool true) ∧ Below w.heap.size w w' := by
  have HVV := Lib.hid hV
  have HA := Lib.hid hA
  clear hA
  have d0 : decide (i < 0) = false := by simp; omega
  have d1 : decide ((S.size : Int) ≤ i) = false := by simp; omega
  have d2 : decide (d < 1) = false := by simp; omega
  have d3 : decide (255 < d) = true := by simp; omega
  have HB := Lib.hid (Below.refl w.heap.size w)
  clear hV hS h hd
  go_enter Tryd.func4, Tryd.ntmps4
  have HB := Lib.hid (bel_al HB.out (.cells #[.int .i64 a0, .int .i64 a1, .int .i64 a2, .int .i64 a3] 23))
  have KA := Lib.hid (Blk.new w #[.int .i64 a0, .int .i64 a1, .int .i64 a2, .int .i64 a3] 23)
  go_wp2_with fail
  generalize w.alloc (.cells #[.int .i64 a0, .int .i64 a1, .int .i64 a2, .int .i64 a3] 23) = v1 at HB KA ⊢
  ((with_reducible refine (shown06 v1 V (HVV.out.below HB.out)).mono ?_))
  rintro e u2 ⟨rfl, hb⟩
  have HB := Lib.hid (bstep HB.out hb)
  have KA := Lib.hid (KA.out.below' hb)
  clear hb
  have ltKA := KA.out.lt
  have cKA0 : u2.cell? ⟨w.heap.size, 0, none⟩ = some (.int .i64 a0) := KA.out.cell rfl
  have cKA1 : u2.cell? ⟨w.heap.size, 1, none⟩ = some (.int .i64 a1) := KA.out.cell rfl
  have cKA2 : u2.cell? ⟨w.heap.size, 2, none⟩ = some (.int .i64 a2) := KA.out.cell rfl
  have cKA3 : u2.cell? ⟨w.heap.size, 3, none⟩ = some (.int .i64 a3) := KA.out.cell rfl
  go_wp2_with fail
  clear ltKA cKA0 cKA1 cKA2 cKA3
  ((with_reducible refine (HA.out u2 V (HVV.out.below HB.out)).mono ?_))
  rintro e u3 ⟨rfl, hb⟩
  have HB := Lib.hid (bstep HB.out hb)
  have KA := Lib.hid (KA.out.below' hb)
  clear hb
  go_wp2
  go_ret
  exact ⟨rfl, HB.out⟩
theorem one_str {W : World} {b : Nat} {x : UInt8} (h : Blk W b #[.int .u8 (x.toNat : Int)] 5) : (convert 34 9 (.slice (some ⟨b, 0, none⟩) 1 1)).run Tryd.prog W = .ok (.string ⟨#[x]⟩) W :=
  run_str (own_blk (base := 0) (n := 1) (size := 1) (cs := byteCells [x]) h (Nat.zero_le _) rfl (by unfold maxLen; omega))
set_option maxRecDepth 100000 in
set_option maxHeartbeats 1000000 in
theorem byte_in (a0 a1 a2 a3 i d : Int) (S : ByteArray) (hS : S.size = 8) (x : UInt8) (A C : ByteArray) (hA1 : S.extract 0 i.toNat = A) (hC1 : S.extract (i + 1).toNat S.size = C)  (h : 0 ≤ i ∧ i < 8) (hd : 1 ≤ d ∧ d ≤ 255) (hbb : i.toNat < S.size) (hx : bits .xor .u8 ((S[i.toNat]'hbb).toNat : Int) d = (x.toNat : Int)) (hD : ∀ (W : World) (V : HR), HV W V → Calls Tryd.prog 12 #[.string (A ++ ⟨#[x]⟩ ++ C)] W fun e w' => e = .returned (.tuple #[.agg #[.int .i64 0, .int .i64 0, .int .i64 0, .int .i64 0], .int .i64 60]) ∧ Below W.heap.size W w') (hA : ∀ (W : World) (V : HR), HV W V → Calls Tryd.prog 10 #[.agg #[.int .i64 a0, .int .i64 a1, .int .i64 a2, .int .i64 a3]] W fun e w' => e = .returned (.tuple #[.string S, .int .i64 0]) ∧ Below W.heap.size W w') (w : World) (V : HR) (hV : HV w V) : Calls Tryd.prog 4 #[.agg #[.int .i64 a0, .int .i64 a1, .int .i64 a2, .int .i64 a3], .int .i64 i, .int .i64 d] w fun e w' => e = .returned (.bool true) ∧ Below w.heap.size w w' := by
  have HS1 := Lib.hid (show A.size ≤ 8 by rw [← hA1]; simp; omega)
  have HS2 := Lib.hid (show C.size ≤ 8 by rw [← hC1]; simp; omega)
  have HE1 := Lib.hid hA1
  have HE2 := Lib.hid hC1
  clear hA1 hC1
  have HX := Lib.hid hx
  have HD := Lib.hid hD
  clear hD
  have HVV := Lib.hid hV
  have HA := Lib.hid hA
  clear hA
  have d0 : decide (i < 0) = false := by simp; omega
  have d1 : decide ((S.size : Int) ≤ i) = false := by simp; omega
  have d2 : decide (d < 1) = false := by simp; omega
  have d3 : decide (255 < d) = false := by simp; omega
  have d4 : 0 ≤ i := h.1
  have d5 : i ≤ (S.size : Int) := by omega
  have d6 : i < (S.size : Int) := by omega
  have d7 : 0 ≤ i + 1 := by omega
  have d8 : i + 1 ≤ (S.size : Int) := by omega
  have d9 : IntKind.wrap .u8 d = d := by simp [IntKind.wrap, IntKind.signed, IntKind.bits]; omega
  have d10 : IntKind.wrap .i64 (i + 1) = i + 1 := by simp [IntKind.wrap, IntKind.signed, IntKind.bits]; omega
  have HB := Lib.hid (Below.refl w.heap.size w)
  clear hV hS h hd hx
  go_enter Tryd.func4, Tryd.ntmps4
  have HB := Lib.hid (bel_al HB.out (.cells #[.int .i64 a0, .int .i64 a1, .int .i64 a2, .int .i64 a3] 23))
  have KA := Lib.hid (Blk.new w #[.int .i64 a0, .int .i64 a1, .int .i64 a2, .int .i64 a3] 23)
  go_wp2_with fail
  generalize w.alloc (.cells #[.int .i64 a0, .int .i64 a1, .int .i64 a2, .int .i64 a3] 23) = v1 at HB KA ⊢
  ((with_reducible refine (shown06 v1 V (HVV.out.below HB.out)).mono ?_))
  rintro e u2 ⟨rfl, hb⟩
  have HB := Lib.hid (bstep HB.out hb)
  have KA := Lib.hid (KA.out.below' hb)
  clear hb
  have ltKA := KA.out.lt
  have cKA0 : u2.cell? ⟨w.heap.size, 0, none⟩ = some (.int .i64 a0) := KA.out.cell rfl
  have cKA1 : u2.cell? ⟨w.heap.size, 1, none⟩ = some (.int .i64 a1) := KA.out.cell rfl
  have cKA2 : u2.cell? ⟨w.heap.size, 2, none⟩ = some (.int .i64 a2) := KA.out.cell rfl
  have cKA3 : u2.cell? ⟨w.heap.size, 3, none⟩ = some (.int .i64 a3) := KA.out.cell rfl
  go_wp2_with fail
  clear ltKA cKA0 cKA1 cKA2 cKA3
  ((with_reducible refine (HA.out u2 V (HVV.out.below HB.out)).mono ?_))
  rintro e u3 ⟨rfl, hb⟩
  have HB := Lib.hid (bstep HB.out hb)
  have KA := Lib.hid (KA.out.below' hb)
  clear hb
  have d11 : A.size ≤ 8 := HS1.out
  have d12 : C.size ≤ 8 := HS2.out
  have d15 : ¬ (9223372036854775807 < A.size + 1) := by omega
  have d16 : ¬ (9223372036854775807 < A.size + 1 + C.size) := by omega
  have d13 := HE1.out
  have d14 := HE2.out
  have hx := HX.out
  clear HA KA
  go_wp2
  refine wp_region_noPanic ?_
  refine wp_region_held_drew (S := fun _ => True) (by kernel_rfl) ?_ (fun hH0 => ?_)
  · trivial
  have HB := Lib.hid (bel_dr' HB.out)
  generalize u3.drew = r0 at HB ⊢
  refine wpAnyH_take (i := 0) (v := ?_) (by simp only [List.getElem?_toArray, List.getElem?_cons_succ, List.getElem?_cons_zero]; rfl) (by kernel_rfl) (by kernel_rfl) (by kernel_rfl) (fun _ _ _ h => (h : False).elim) (Or.inl ⟨by rfl, ?_⟩) hH0 ?_
  rotate_left
  · intro w hSw; (try dsimp only at hSw); go_simp; try with_reducible rfl
  try simp only [Act.put, List.setIfInBounds_toArray, List.set_cons_zero, List.set_cons_succ]
  refine wpAnyH_take (i := 1) (v := ?_) (by simp only [List.getElem?_toArray, List.getElem?_cons_succ, List.getElem?_cons_zero]; rfl) (by kernel_rfl) (by kernel_rfl) (by kernel_rfl) (fun _ _ _ h => (h : False).elim) (Or.inl ⟨by rfl, ?_⟩) hH0 ?_
  rotate_left
  · intro w hSw; (try dsimp only at hSw); go_simp; try with_reducible rfl
  try simp only [Act.put, List.setIfInBounds_toArray, List.set_cons_zero, List.set_cons_succ]
  refine wpAnyH_take (i := 2) (v := ?_) (by simp only [List.getElem?_toArray, List.getElem?_cons_succ, List.getElem?_cons_zero]; rfl) (by kernel_rfl) (by kernel_rfl) (by kernel_rfl) (fun _ _ _ h => (h : False).elim) (Or.inl ⟨by rfl, ?_⟩) hH0 ?_
  rotate_left
  · intro w hSw; (try dsimp only at hSw); go_simp; try with_reducible rfl
  try simp only [Act.put, List.setIfInBounds_toArray, List.set_cons_zero, List.set_cons_succ]
  refine wpAnyH_take (i := 3) (v := ?_) (by simp only [List.getElem?_toArray, List.getElem?_cons_succ, List.getElem?_cons_zero]; rfl) (by kernel_rfl) (by kernel_rfl) (by kernel_rfl) (fun _ _ _ h => (h : False).elim) (Or.inl ⟨by rfl, ?_⟩) hH0 ?_
  rotate_left
  · intro w hSw; (try dsimp only at hSw); go_simp; try with_reducible rfl
  try simp only [Act.put, List.setIfInBounds_toArray, List.set_cons_zero, List.set_cons_succ]
  refine wpAnyH_take (i := 4) (v := ?_) (by simp only [List.getElem?_toArray, List.getElem?_cons_succ, List.getElem?_cons_zero]; rfl) (by kernel_rfl) (by kernel_rfl) (by kernel_rfl) (fun _ _ _ h => (h : False).elim) (Or.inl ⟨by rfl, ?_⟩) hH0 ?_
  rotate_left
  · intro w hSw; (try dsimp only at hSw); go_simp; try with_reducible rfl
  try simp only [Act.put, List.setIfInBounds_toArray, List.set_cons_zero, List.set_cons_succ]
  refine wpAnyH_take (i := 5) (v := ?_) (by simp only [List.getElem?_toArray, List.getElem?_cons_succ, List.getElem?_cons_zero]; rfl) (by kernel_rfl) (by kernel_rfl) (by kernel_rfl) (fun _ _ _ h => (h : False).elim) (Or.inl ⟨by rfl, ?_⟩) hH0 ?_
  rotate_left
  · intro w hSw; (try dsimp only at hSw); go_simp; try with_reducible rfl
  try simp only [Act.put, List.setIfInBounds_toArray, List.set_cons_zero, List.set_cons_succ]
  refine wpAnyH_take (i := 6) (v := ?_) (by simp only [List.getElem?_toArray, List.getElem?_cons_succ, List.getElem?_cons_zero]; rfl) (by kernel_rfl) (by kernel_rfl) (by kernel_rfl) (fun _ _ _ h => (h : False).elim) (Or.inl ⟨by rfl, ?_⟩) hH0 ?_
  rotate_left
  · intro w hSw; (try dsimp only at hSw); go_simp; try with_reducible rfl
  try simp only [Act.put, List.setIfInBounds_toArray, List.set_cons_zero, List.set_cons_succ]
  refine wpAnyH_take (i := 7) (v := ?_) (by simp only [List.getElem?_toArray, List.getElem?_cons_succ, List.getElem?_cons_zero]; rfl) (by kernel_rfl) (by kernel_rfl) (by kernel_rfl) (fun _ _ _ h => (h : False).elim) (Or.inl ⟨by rfl, ?_⟩) hH0 ?_
  rotate_left
  · intro w hSw; (try dsimp only at hSw); go_simp; try with_reducible rfl
  try simp only [Act.put, List.setIfInBounds_toArray, List.set_cons_zero, List.set_cons_succ]
  refine wpAnyH_take (i := 8) (v := ?_) (by simp only [List.getElem?_toArray, List.getElem?_cons_succ, List.getElem?_cons_zero]; rfl) (by kernel_rfl) (by kernel_rfl) (by kernel_rfl) (fun _ _ _ h => (h : False).elim) (Or.inl ⟨by rfl, ?_⟩) hH0 ?_
  rotate_left
  · intro w hSw; (try dsimp only at hSw); go_simp; try with_reducible rfl
  try simp only [Act.put, List.setIfInBounds_toArray, List.set_cons_zero, List.set_cons_succ]
  refine wpAnyH_take (i := 12) (v := ?_) (by simp only [List.getElem?_toArray, List.getElem?_cons_succ, List.getElem?_cons_zero]; rfl) (by kernel_rfl) (by kernel_rfl) (by kernel_rfl) (fun _ _ _ h => (h : False).elim) (Or.inl ⟨by rfl, ?_⟩) hH0 ?_
  rotate_left
  · intro w hSw; (try dsimp only at hSw); go_simp; try with_reducible rfl
  try simp only [Act.put, List.setIfInBounds_toArray, List.set_cons_zero, List.set_cons_succ]
  refine wpAnyH_take (i := 13) (v := ?_) (by simp only [List.getElem?_toArray, List.getElem?_cons_succ, List.getElem?_cons_zero]; rfl) (by kernel_rfl) (by kernel_rfl) (by kernel_rfl) (fun _ _ _ h => (h : False).elim) (Or.inl ⟨by rfl, ?_⟩) hH0 ?_
  rotate_left
  · intro w hSw; (try dsimp only at hSw); go_simp; try with_reducible rfl
  try simp only [Act.put, List.setIfInBounds_toArray, List.set_cons_zero, List.set_cons_succ]
  refine wpAnyH_take (i := 14) (v := ?_) (by simp only [List.getElem?_toArray, List.getElem?_cons_succ, List.getElem?_cons_zero]; rfl) (by kernel_rfl) (by kernel_rfl) (by kernel_rfl) (fun _ _ _ h => (h : False).elim) (Or.inl ⟨by rfl, ?_⟩) hH0 ?_
  rotate_left
  · intro w hSw; (try dsimp only at hSw); go_simp; try with_reducible rfl
  try simp only [Act.put, List.setIfInBounds_toArray, List.set_cons_zero, List.set_cons_succ]
  refine wpAnyH_take (i := 15) (v := ?_) (by simp only [List.getElem?_toArray, List.getElem?_cons_succ, List.getElem?_cons_zero]; rfl) (by kernel_rfl) (by kernel_rfl) (by kernel_rfl) (fun _ _ _ h => (h : False).elim) (Or.inl ⟨by rfl, ?_⟩) hH0 ?_
  rotate_left
  · intro w hSw; (try dsimp only at hSw); go_simp; try with_reducible rfl
  try simp only [Act.put, List.setIfInBounds_toArray, List.set_cons_zero, List.set_cons_succ]
  refine wpAnyH_ready (rs := [9, 21]) (by kernel_rfl) (by simp) ?_
  refine AllReadyH.cons rfl (fun K hK => ?_) ?_
  · try simp only [Act.put, List.setIfInBounds_toArray, List.set_cons_zero, List.set_cons_succ]
    go_simp
    refine hK.out _ _ ?_ (fun hH1 => ?_)
    · trivial
    clear hK K hH0
    try simp only [Act.put, List.setIfInBounds_toArray, List.set_cons_zero, List.set_cons_succ]
    have HB := Lib.hid (bel_al' HB.out (.cells #[.int .u8 (x.toNat : Int)] 5))
    have HX1 := Lib.hid (Blk.new r0 #[.int .u8 (x.toNat : Int)] 5)
    have hcv := one_str HX1.out
    generalize r0.alloc (.cells #[.int .u8 (x.toNat : Int)] 5) = r1 at HB HX1 hcv ⊢
    refine wpAnyH_ready (rs := [10, 21]) (by kernel_rfl) (by simp) ?_
    refine AllReadyH.cons rfl (fun K hK => ?_) ?_
    · try simp only [Act.put, List.setIfInBounds_toArray, List.set_cons_zero, List.set_cons_succ]
      go_simp
      refine hK.out _ _ ?_ (fun hH2 => ?_)
      · trivial
      clear hK K hH1
      try simp only [Act.put, List.setIfInBounds_toArray, List.set_cons_zero, List.set_cons_succ]
      clear hcv HX1
      refine wpAnyH_take (i := 11) (v := ?_) (by simp only [List.getElem?_toArray, List.getElem?_cons_succ, List.getElem?_cons_zero]; rfl) (by kernel_rfl) (by kernel_rfl) (by kernel_rfl) (fun _ _ _ h => (h : False).elim) (Or.inl ⟨by rfl, ?_⟩) hH2 ?_
      rotate_left
      · intro w hSw; (try dsimp only at hSw); go_simp; try with_reducible rfl
      try simp only [Act.put, List.setIfInBounds_toArray, List.set_cons_zero, List.set_cons_succ]
      refine wpAnyH_take (i := 16) (v := ?_) (by simp only [List.getElem?_toArray, List.getElem?_cons_succ, List.getElem?_cons_zero]; rfl) (by kernel_rfl) (by kernel_rfl) (by kernel_rfl) (fun _ _ _ h => (h : False).elim) (Or.inl ⟨by rfl, ?_⟩) hH2 ?_
      rotate_left
      · intro w hSw; (try dsimp only at hSw); go_simp; try with_reducible rfl
      try simp only [Act.put, List.setIfInBounds_toArray, List.set_cons_zero, List.set_cons_succ]
      refine wpAnyH_ready (rs := [17, 21]) (by kernel_rfl) (by simp) ?_
      refine AllReadyH.cons rfl (fun K hK => ?_) ?_
      · try simp only [Act.put, List.setIfInBounds_toArray, List.set_cons_zero, List.set_cons_succ]
        go_simp
        ((with_reducible refine (HD.out r1 V (HVV.out.below HB.out)).mono ?_))
        rintro e r3 ⟨rfl, hb⟩
        have HB := Lib.hid (bstep HB.out hb)
        clear hb
        refine hK.out _ _ ?_ (fun hH3 => ?_)
        · trivial
        clear hK K hH2
        try simp only [Act.put, List.setIfInBounds_toArray, List.set_cons_zero, List.set_cons_succ]
        refine wpAnyH_take (i := 18) (v := ?_) (by simp only [List.getElem?_toArray, List.getElem?_cons_succ, List.getElem?_cons_zero]; rfl) (by kernel_rfl) (by kernel_rfl) (by kernel_rfl) (fun _ _ _ h => (h : False).elim) (Or.inl ⟨by rfl, ?_⟩) hH3 ?_
        rotate_left
        · intro w hSw; (try dsimp only at hSw); go_simp; try with_reducible rfl
        try simp only [Act.put, List.setIfInBounds_toArray, List.set_cons_zero, List.set_cons_succ]
        refine wpAnyH_take (i := 19) (v := ?_) (by simp only [List.getElem?_toArray, List.getElem?_cons_succ, List.getElem?_cons_zero]; rfl) (by kernel_rfl) (by kernel_rfl) (by kernel_rfl) (fun _ _ _ h => (h : False).elim) (Or.inl ⟨by rfl, ?_⟩) hH3 ?_
        rotate_left
        · intro w hSw; (try dsimp only at hSw); go_simp; try with_reducible rfl
        try simp only [Act.put, List.setIfInBounds_toArray, List.set_cons_zero, List.set_cons_succ]
        refine wpAnyH_take (i := 20) (v := ?_) (by simp only [List.getElem?_toArray, List.getElem?_cons_succ, List.getElem?_cons_zero]; rfl) (by kernel_rfl) (by kernel_rfl) (by kernel_rfl) (fun _ _ _ h => (h : False).elim) (Or.inl ⟨by rfl, ?_⟩) hH3 ?_
        rotate_left
        · intro w hSw; (try dsimp only at hSw); go_simp; try with_reducible rfl
        try simp only [Act.put, List.setIfInBounds_toArray, List.set_cons_zero, List.set_cons_succ]
        refine wpAnyH_ready (rs := [21]) (by kernel_rfl) (by simp) ?_
        refine AllReadyH.cons rfl (fun K hK => ?_) ?_
        · try simp only [Act.put, List.setIfInBounds_toArray, List.set_cons_zero, List.set_cons_succ]
          go_simp
          refine hK.out _ _ ?_ (fun hH4 => ?_)
          · trivial
          clear hK K hH3
          try simp only [Act.put, List.setIfInBounds_toArray, List.set_cons_zero, List.set_cons_succ]
          have HSZ := Lib.hid HB.out.size
          have HB := Lib.hid (bel_al' HB.out (.cells #[.int .i64 0, .int .i64 0, .int .i64 0, .int .i64 0] 23))
          have KM := Lib.hid (Blk.new r3 #[.int .i64 0, .int .i64 0, .int .i64 0, .int .i64 0] 23)
          generalize r3.alloc (.cells #[.int .i64 0, .int .i64 0, .int .i64 0, .int .i64 0] 23) = r4 at HB KM ⊢
          refine wpAnyH_ready (rs := [22]) (by kernel_rfl) (by simp) ?_
          refine AllReadyH.cons rfl (fun K hK => ?_) ?_
          · try simp only [Act.put, List.setIfInBounds_toArray, List.set_cons_zero, List.set_cons_succ]
            have m0 : r4.cell? ⟨r3.heap.size, 0, none⟩ = some (.int .i64 0) := KM.out.cell rfl
            have m1 : r4.cell? ⟨r3.heap.size, 1, none⟩ = some (.int .i64 0) := KM.out.cell rfl
            have m2 : r4.cell? ⟨r3.heap.size, 2, none⟩ = some (.int .i64 0) := KM.out.cell rfl
            have m3 : r4.cell? ⟨r3.heap.size, 3, none⟩ = some (.int .i64 0) := KM.out.cell rfl
            have e0 := KM.out.frozen 0
            have e1 := KM.out.frozen 1
            have e2 := KM.out.frozen 2
            have e3 := KM.out.frozen 3
            have lm := KM.out.lt
            go_simp
            refine hK.out _ _ ?_ (fun hH5 => ?_)
            · trivial
            clear hK K hH4
            try simp only [Act.put, List.setIfInBounds_toArray, List.set_cons_zero, List.set_cons_succ]
            refine wpAnyH_take (i := 23) (v := ?_) (by simp only [List.getElem?_toArray, List.getElem?_cons_succ, List.getElem?_cons_zero]; rfl) (by kernel_rfl) (by kernel_rfl) (by kernel_rfl) (fun _ _ _ h => (h : False).elim) (Or.inl ⟨by rfl, ?_⟩) hH5 ?_
            rotate_left
            · intro w hSw; (try dsimp only at hSw); go_simp; try with_reducible rfl
            try simp only [Act.put, List.setIfInBounds_toArray, List.set_cons_zero, List.set_cons_succ]
            refine wpAnyH_done (by kernel_rfl) ?_ _
            refine NoPanic.normal ?_
            clear hH5
            go_wp2
            have hsz := HSZ.out
            refine bodyPost_ret (v := .bool true) (by simp [results, Tryd.results4, go_sem]) rfl ⟨rfl, ?_⟩
            repeat (first | exact HB.out | refine bel_al' ?_ _ | refine bel_set' ?_ hsz | refine bel_dr' ?_)
          exact AllReadyH.nil
        exact AllReadyH.nil
      refine AllReadyH.cons rfl (fun K hK => ?_) ?_
      · try simp only [Act.put, List.setIfInBounds_toArray, List.set_cons_zero, List.set_cons_succ]
        go_simp
        refine hK.out _ _ ?_ (fun hH3 => ?_)
        · trivial
        clear hK K hH2
        try simp only [Act.put, List.setIfInBounds_toArray, List.set_cons_zero, List.set_cons_succ]
        have HSZ := Lib.hid HB.out.size
        have HB := Lib.hid (bel_al' HB.out (.cells #[.int .i64 0, .int .i64 0, .int .i64 0, .int .i64 0] 23))
        have KM := Lib.hid (Blk.new r1 #[.int .i64 0, .int .i64 0, .int .i64 0, .int .i64 0] 23)
        generalize r1.alloc (.cells #[.int .i64 0, .int .i64 0, .int .i64 0, .int .i64 0] 23) = r6 at HB KM ⊢
        refine wpAnyH_ready (rs := [17]) (by kernel_rfl) (by simp) ?_
        refine AllReadyH.cons rfl (fun K hK => ?_) ?_
        · try simp only [Act.put, List.setIfInBounds_toArray, List.set_cons_zero, List.set_cons_succ]
          go_simp
          ((with_reducible refine (HD.out r6 V (HVV.out.below HB.out)).mono ?_))
          rintro e r7 ⟨rfl, hb⟩
          have HB := Lib.hid (bstep HB.out hb)
          have KM := Lib.hid (KM.out.below' hb)
          clear hb
          refine hK.out _ _ ?_ (fun hH4 => ?_)
          · trivial
          clear hK K hH3
          try simp only [Act.put, List.setIfInBounds_toArray, List.set_cons_zero, List.set_cons_succ]
          refine wpAnyH_take (i := 18) (v := ?_) (by simp only [List.getElem?_toArray, List.getElem?_cons_succ, List.getElem?_cons_zero]; rfl) (by kernel_rfl) (by kernel_rfl) (by kernel_rfl) (fun _ _ _ h => (h : False).elim) (Or.inl ⟨by rfl, ?_⟩) hH4 ?_
          rotate_left
          · intro w hSw; (try dsimp only at hSw); go_simp; try with_reducible rfl
          try simp only [Act.put, List.setIfInBounds_toArray, List.set_cons_zero, List.set_cons_succ]
          refine wpAnyH_take (i := 19) (v := ?_) (by simp only [List.getElem?_toArray, List.getElem?_cons_succ, List.getElem?_cons_zero]; rfl) (by kernel_rfl) (by kernel_rfl) (by kernel_rfl) (fun _ _ _ h => (h : False).elim) (Or.inl ⟨by rfl, ?_⟩) hH4 ?_
          rotate_left
          · intro w hSw; (try dsimp only at hSw); go_simp; try with_reducible rfl
          try simp only [Act.put, List.setIfInBounds_toArray, List.set_cons_zero, List.set_cons_succ]
          refine wpAnyH_take (i := 20) (v := ?_) (by simp only [List.getElem?_toArray, List.getElem?_cons_succ, List.getElem?_cons_zero]; rfl) (by kernel_rfl) (by kernel_rfl) (by kernel_rfl) (fun _ _ _ h => (h : False).elim) (Or.inl ⟨by rfl, ?_⟩) hH4 ?_
          rotate_left
          · intro w hSw; (try dsimp only at hSw); go_simp; try with_reducible rfl
          try simp only [Act.put, List.setIfInBounds_toArray, List.set_cons_zero, List.set_cons_succ]
          refine wpAnyH_ready (rs := [22]) (by kernel_rfl) (by simp) ?_
          refine AllReadyH.cons rfl (fun K hK => ?_) ?_
          · try simp only [Act.put, List.setIfInBounds_toArray, List.set_cons_zero, List.set_cons_succ]
            have m0 : r7.cell? ⟨r1.heap.size, 0, none⟩ = some (.int .i64 0) := KM.out.cell rfl
            have m1 : r7.cell? ⟨r1.heap.size, 1, none⟩ = some (.int .i64 0) := KM.out.cell rfl
            have m2 : r7.cell? ⟨r1.heap.size, 2, none⟩ = some (.int .i64 0) := KM.out.cell rfl
            have m3 : r7.cell? ⟨r1.heap.size, 3, none⟩ = some (.int .i64 0) := KM.out.cell rfl
            have e0 := KM.out.frozen 0
            have e1 := KM.out.frozen 1
            have e2 := KM.out.frozen 2
            have e3 := KM.out.frozen 3
            have lm := KM.out.lt
            go_simp
            refine hK.out _ _ ?_ (fun hH5 => ?_)
            · trivial
            clear hK K hH4
            try simp only [Act.put, List.setIfInBounds_toArray, List.set_cons_zero, List.set_cons_succ]
            refine wpAnyH_take (i := 23) (v := ?_) (by simp only [List.getElem?_toArray, List.getElem?_cons_succ, List.getElem?_cons_zero]; rfl) (by kernel_rfl) (by kernel_rfl) (by kernel_rfl) (fun _ _ _ h => (h : False).elim) (Or.inl ⟨by rfl, ?_⟩) hH5 ?_
            rotate_left
            · intro w hSw; (try dsimp only at hSw); go_simp; try with_reducible rfl
            try simp only [Act.put, List.setIfInBounds_toArray, List.set_cons_zero, List.set_cons_succ]
            refine wpAnyH_done (by kernel_rfl) ?_ _
            refine NoPanic.normal ?_
            clear hH5
            go_wp2
            have hsz := HSZ.out
            refine bodyPost_ret (v := .bool true) (by simp [results, Tryd.results4, go_sem]) rfl ⟨rfl, ?_⟩
            repeat (first | exact HB.out | refine bel_al' ?_ _ | refine bel_set' ?_ hsz | refine bel_dr' ?_)
          exact AllReadyH.nil
        exact AllReadyH.nil
      exact AllReadyH.nil
    refine AllReadyH.cons rfl (fun K hK => ?_) ?_
    · try simp only [Act.put, List.setIfInBounds_toArray, List.set_cons_zero, List.set_cons_succ]
      go_simp
      refine hK.out _ _ ?_ (fun hH2 => ?_)
      · trivial
      clear hK K hH1
      try simp only [Act.put, List.setIfInBounds_toArray, List.set_cons_zero, List.set_cons_succ]
      have HSZ := Lib.hid HB.out.size
      have HB := Lib.hid (bel_al' HB.out (.cells #[.int .i64 0, .int .i64 0, .int .i64 0, .int .i64 0] 23))
      have KM := Lib.hid (Blk.new r1 #[.int .i64 0, .int .i64 0, .int .i64 0, .int .i64 0] 23)
      have HX1 := Lib.hid (HX1.out.alloc (.cells #[.int .i64 0, .int .i64 0, .int .i64 0, .int .i64 0] 23))
      clear hcv
      have hcv := one_str HX1.out
      generalize r1.alloc (.cells #[.int .i64 0, .int .i64 0, .int .i64 0, .int .i64 0] 23) = r9 at HB KM HX1 hcv ⊢
      refine wpAnyH_ready (rs := [10]) (by kernel_rfl) (by simp) ?_
      refine AllReadyH.cons rfl (fun K hK => ?_) ?_
      · try simp only [Act.put, List.setIfInBounds_toArray, List.set_cons_zero, List.set_cons_succ]
        go_simp
        refine hK.out _ _ ?_ (fun hH3 => ?_)
        · trivial
        clear hK K hH2
        try simp only [Act.put, List.setIfInBounds_toArray, List.set_cons_zero, List.set_cons_succ]
        clear hcv HX1
        refine wpAnyH_take (i := 11) (v := ?_) (by simp only [List.getElem?_toArray, List.getElem?_cons_succ, List.getElem?_cons_zero]; rfl) (by kernel_rfl) (by kernel_rfl) (by kernel_rfl) (fun _ _ _ h => (h : False).elim) (Or.inl ⟨by rfl, ?_⟩) hH3 ?_
        rotate_left
        · intro w hSw; (try dsimp only at hSw); go_simp; try with_reducible rfl
        try simp only [Act.put, List.setIfInBounds_toArray, List.set_cons_zero, List.set_cons_succ]
        refine wpAnyH_take (i := 16) (v := ?_) (by simp only [List.getElem?_toArray, List.getElem?_cons_succ, List.getElem?_cons_zero]; rfl) (by kernel_rfl) (by kernel_rfl) (by kernel_rfl) (fun _ _ _ h => (h : False).elim) (Or.inl ⟨by rfl, ?_⟩) hH3 ?_
        rotate_left
        · intro w hSw; (try dsimp only at hSw); go_simp; try with_reducible rfl
        try simp only [Act.put, List.setIfInBounds_toArray, List.set_cons_zero, List.set_cons_succ]
        refine wpAnyH_ready (rs := [17]) (by kernel_rfl) (by simp) ?_
        refine AllReadyH.cons rfl (fun K hK => ?_) ?_
        · try simp only [Act.put, List.setIfInBounds_toArray, List.set_cons_zero, List.set_cons_succ]
          go_simp
          ((with_reducible refine (HD.out r9 V (HVV.out.below HB.out)).mono ?_))
          rintro e r11 ⟨rfl, hb⟩
          have HB := Lib.hid (bstep HB.out hb)
          have KM := Lib.hid (KM.out.below' hb)
          clear hb
          refine hK.out _ _ ?_ (fun hH4 => ?_)
          · trivial
          clear hK K hH3
          try simp only [Act.put, List.setIfInBounds_toArray, List.set_cons_zero, List.set_cons_succ]
          refine wpAnyH_take (i := 18) (v := ?_) (by simp only [List.getElem?_toArray, List.getElem?_cons_succ, List.getElem?_cons_zero]; rfl) (by kernel_rfl) (by kernel_rfl) (by kernel_rfl) (fun _ _ _ h => (h : False).elim) (Or.inl ⟨by rfl, ?_⟩) hH4 ?_
          rotate_left
          · intro w hSw; (try dsimp only at hSw); go_simp; try with_reducible rfl
          try simp only [Act.put, List.setIfInBounds_toArray, List.set_cons_zero, List.set_cons_succ]
          refine wpAnyH_take (i := 19) (v := ?_) (by simp only [List.getElem?_toArray, List.getElem?_cons_succ, List.getElem?_cons_zero]; rfl) (by kernel_rfl) (by kernel_rfl) (by kernel_rfl) (fun _ _ _ h => (h : False).elim) (Or.inl ⟨by rfl, ?_⟩) hH4 ?_
          rotate_left
          · intro w hSw; (try dsimp only at hSw); go_simp; try with_reducible rfl
          try simp only [Act.put, List.setIfInBounds_toArray, List.set_cons_zero, List.set_cons_succ]
          refine wpAnyH_take (i := 20) (v := ?_) (by simp only [List.getElem?_toArray, List.getElem?_cons_succ, List.getElem?_cons_zero]; rfl) (by kernel_rfl) (by kernel_rfl) (by kernel_rfl) (fun _ _ _ h => (h : False).elim) (Or.inl ⟨by rfl, ?_⟩) hH4 ?_
          rotate_left
          · intro w hSw; (try dsimp only at hSw); go_simp; try with_reducible rfl
          try simp only [Act.put, List.setIfInBounds_toArray, List.set_cons_zero, List.set_cons_succ]
          refine wpAnyH_ready (rs := [22]) (by kernel_rfl) (by simp) ?_
          refine AllReadyH.cons rfl (fun K hK => ?_) ?_
          · try simp only [Act.put, List.setIfInBounds_toArray, List.set_cons_zero, List.set_cons_succ]
            have m0 : r11.cell? ⟨r1.heap.size, 0, none⟩ = some (.int .i64 0) := KM.out.cell rfl
            have m1 : r11.cell? ⟨r1.heap.size, 1, none⟩ = some (.int .i64 0) := KM.out.cell rfl
            have m2 : r11.cell? ⟨r1.heap.size, 2, none⟩ = some (.int .i64 0) := KM.out.cell rfl
            have m3 : r11.cell? ⟨r1.heap.size, 3, none⟩ = some (.int .i64 0) := KM.out.cell rfl
            have e0 := KM.out.frozen 0
            have e1 := KM.out.frozen 1
            have e2 := KM.out.frozen 2
            have e3 := KM.out.frozen 3
            have lm := KM.out.lt
            go_simp
            refine hK.out _ _ ?_ (fun hH5 => ?_)
            · trivial
            clear hK K hH4
            try simp only [Act.put, List.setIfInBounds_toArray, List.set_cons_zero, List.set_cons_succ]
            refine wpAnyH_take (i := 23) (v := ?_) (by simp only [List.getElem?_toArray, List.getElem?_cons_succ, List.getElem?_cons_zero]; rfl) (by kernel_rfl) (by kernel_rfl) (by kernel_rfl) (fun _ _ _ h => (h : False).elim) (Or.inl ⟨by rfl, ?_⟩) hH5 ?_
            rotate_left
            · intro w hSw; (try dsimp only at hSw); go_simp; try with_reducible rfl
            try simp only [Act.put, List.setIfInBounds_toArray, List.set_cons_zero, List.set_cons_succ]
            refine wpAnyH_done (by kernel_rfl) ?_ _
            refine NoPanic.normal ?_
            clear hH5
            go_wp2
            have hsz := HSZ.out
            refine bodyPost_ret (v := .bool true) (by simp [results, Tryd.results4, go_sem]) rfl ⟨rfl, ?_⟩
            repeat (first | exact HB.out | refine bel_al' ?_ _ | refine bel_set' ?_ hsz | refine bel_dr' ?_)
          exact AllReadyH.nil
        exact AllReadyH.nil
      exact AllReadyH.nil
    exact AllReadyH.nil
  refine AllReadyH.cons rfl (fun K hK => ?_) ?_
  · try simp only [Act.put, List.setIfInBounds_toArray, List.set_cons_zero, List.set_cons_succ]
    go_simp
    refine hK.out _ _ ?_ (fun hH1 => ?_)
    · trivial
    clear hK K hH0
    try simp only [Act.put, List.setIfInBounds_toArray, List.set_cons_zero, List.set_cons_succ]
    have HSZ := Lib.hid HB.out.size
    have HB := Lib.hid (bel_al' HB.out (.cells #[.int .i64 0, .int .i64 0, .int .i64 0, .int .i64 0] 23))
    have KM := Lib.hid (Blk.new r0 #[.int .i64 0, .int .i64 0, .int .i64 0, .int .i64 0] 23)
    generalize r0.alloc (.cells #[.int .i64 0, .int .i64 0, .int .i64 0, .int .i64 0] 23) = r13 at HB KM ⊢
    refine wpAnyH_ready (rs := [9]) (by kernel_rfl) (by simp) ?_
    refine AllReadyH.cons rfl (fun K hK => ?_) ?_
    · try simp only [Act.put, List.setIfInBounds_toArray, List.set_cons_zero, List.set_cons_succ]
      go_simp
      refine hK.out _ _ ?_ (fun hH2 => ?_)
      · trivial
      clear hK K hH1
      try simp only [Act.put, List.setIfInBounds_toArray, List.set_cons_zero, List.set_cons_succ]
      have HB := Lib.hid (bel_al' HB.out (.cells #[.int .u8 (x.toNat : Int)] 5))
      have KM := Lib.hid (KM.out.alloc (.cells #[.int .u8 (x.toNat : Int)] 5))
      have HX1 := Lib.hid (Blk.new r13 #[.int .u8 (x.toNat : Int)] 5)
      have hcv := one_str HX1.out
      generalize r13.alloc (.cells #[.int .u8 (x.toNat : Int)] 5) = r14 at HB HX1 hcv KM ⊢
      refine wpAnyH_ready (rs := [10]) (by kernel_rfl) (by simp) ?_
      refine AllReadyH.cons rfl (fun K hK => ?_) ?_
      · try simp only [Act.put, List.setIfInBounds_toArray, List.set_cons_zero, List.set_cons_succ]
        go_simp
        refine hK.out _ _ ?_ (fun hH3 => ?_)
        · trivial
        clear hK K hH2
        try simp only [Act.put, List.setIfInBounds_toArray, List.set_cons_zero, List.set_cons_succ]
        clear hcv HX1
        refine wpAnyH_take (i := 11) (v := ?_) (by simp only [List.getElem?_toArray, List.getElem?_cons_succ, List.getElem?_cons_zero]; rfl) (by kernel_rfl) (by kernel_rfl) (by kernel_rfl) (fun _ _ _ h => (h : False).elim) (Or.inl ⟨by rfl, ?_⟩) hH3 ?_
        rotate_left
        · intro w hSw; (try dsimp only at hSw); go_simp; try with_reducible rfl
        try simp only [Act.put, List.setIfInBounds_toArray, List.set_cons_zero, List.set_cons_succ]
        refine wpAnyH_take (i := 16) (v := ?_) (by simp only [List.getElem?_toArray, List.getElem?_cons_succ, List.getElem?_cons_zero]; rfl) (by kernel_rfl) (by kernel_rfl) (by kernel_rfl) (fun _ _ _ h => (h : False).elim) (Or.inl ⟨by rfl, ?_⟩) hH3 ?_
        rotate_left
        · intro w hSw; (try dsimp only at hSw); go_simp; try with_reducible rfl
        try simp only [Act.put, List.setIfInBounds_toArray, List.set_cons_zero, List.set_cons_succ]
        refine wpAnyH_ready (rs := [17]) (by kernel_rfl) (by simp) ?_
        refine AllReadyH.cons rfl (fun K hK => ?_) ?_
        · try simp only [Act.put, List.setIfInBounds_toArray, List.set_cons_zero, List.set_cons_succ]
          go_simp
          ((with_reducible refine (HD.out r14 V (HVV.out.below HB.out)).mono ?_))
          rintro e r16 ⟨rfl, hb⟩
          have HB := Lib.hid (bstep HB.out hb)
          have KM := Lib.hid (KM.out.below' hb)
          clear hb
          refine hK.out _ _ ?_ (fun hH4 => ?_)
          · trivial
          clear hK K hH3
          try simp only [Act.put, List.setIfInBounds_toArray, List.set_cons_zero, List.set_cons_succ]
          refine wpAnyH_take (i := 18) (v := ?_) (by simp only [List.getElem?_toArray, List.getElem?_cons_succ, List.getElem?_cons_zero]; rfl) (by kernel_rfl) (by kernel_rfl) (by kernel_rfl) (fun _ _ _ h => (h : False).elim) (Or.inl ⟨by rfl, ?_⟩) hH4 ?_
          rotate_left
          · intro w hSw; (try dsimp only at hSw); go_simp; try with_reducible rfl
          try simp only [Act.put, List.setIfInBounds_toArray, List.set_cons_zero, List.set_cons_succ]
          refine wpAnyH_take (i := 19) (v := ?_) (by simp only [List.getElem?_toArray, List.getElem?_cons_succ, List.getElem?_cons_zero]; rfl) (by kernel_rfl) (by kernel_rfl) (by kernel_rfl) (fun _ _ _ h => (h : False).elim) (Or.inl ⟨by rfl, ?_⟩) hH4 ?_
          rotate_left
          · intro w hSw; (try dsimp only at hSw); go_simp; try with_reducible rfl
          try simp only [Act.put, List.setIfInBounds_toArray, List.set_cons_zero, List.set_cons_succ]
          refine wpAnyH_take (i := 20) (v := ?_) (by simp only [List.getElem?_toArray, List.getElem?_cons_succ, List.getElem?_cons_zero]; rfl) (by kernel_rfl) (by kernel_rfl) (by kernel_rfl) (fun _ _ _ h => (h : False).elim) (Or.inl ⟨by rfl, ?_⟩) hH4 ?_
          rotate_left
          · intro w hSw; (try dsimp only at hSw); go_simp; try with_reducible rfl
          try simp only [Act.put, List.setIfInBounds_toArray, List.set_cons_zero, List.set_cons_succ]
          refine wpAnyH_ready (rs := [22]) (by kernel_rfl) (by simp) ?_
          refine AllReadyH.cons rfl (fun K hK => ?_) ?_
          · try simp only [Act.put, List.setIfInBounds_toArray, List.set_cons_zero, List.set_cons_succ]
            have m0 : r16.cell? ⟨r0.heap.size, 0, none⟩ = some (.int .i64 0) := KM.out.cell rfl
            have m1 : r16.cell? ⟨r0.heap.size, 1, none⟩ = some (.int .i64 0) := KM.out.cell rfl
            have m2 : r16.cell? ⟨r0.heap.size, 2, none⟩ = some (.int .i64 0) := KM.out.cell rfl
            have m3 : r16.cell? ⟨r0.heap.size, 3, none⟩ = some (.int .i64 0) := KM.out.cell rfl
            have e0 := KM.out.frozen 0
            have e1 := KM.out.frozen 1
            have e2 := KM.out.frozen 2
            have e3 := KM.out.frozen 3
            have lm := KM.out.lt
            go_simp
            refine hK.out _ _ ?_ (fun hH5 => ?_)
            · trivial
            clear hK K hH4
            try simp only [Act.put, List.setIfInBounds_toArray, List.set_cons_zero, List.set_cons_succ]
            refine wpAnyH_take (i := 23) (v := ?_) (by simp only [List.getElem?_toArray, List.getElem?_cons_succ, List.getElem?_cons_zero]; rfl) (by kernel_rfl) (by kernel_rfl) (by kernel_rfl) (fun _ _ _ h => (h : False).elim) (Or.inl ⟨by rfl, ?_⟩) hH5 ?_
            rotate_left
            · intro w hSw; (try dsimp only at hSw); go_simp; try with_reducible rfl
            try simp only [Act.put, List.setIfInBounds_toArray, List.set_cons_zero, List.set_cons_succ]
            refine wpAnyH_done (by kernel_rfl) ?_ _
            refine NoPanic.normal ?_
            clear hH5
            go_wp2
            have hsz := HSZ.out
            refine bodyPost_ret (v := .bool true) (by simp [results, Tryd.results4, go_sem]) rfl ⟨rfl, ?_⟩
            repeat (first | exact HB.out | refine bel_al' ?_ _ | refine bel_set' ?_ hsz | refine bel_dr' ?_)
          exact AllReadyH.nil
        exact AllReadyH.nil
      exact AllReadyH.nil
    exact AllReadyH.nil
  exact AllReadyH.nil
end Go.Proofs.YtmikkbhillkpkaaDoor
