/-
  head.Put and head.Get over whatever bytes, the reference likewise; selionlaw06.HeadPuts, for every input.
-/
import Derived.Test.YtmikkbhillkpkaaDoorHbD
import Derived.Test.YtmikkbhillkpkaaDoorHrD
import Derived.Test.YtmikkbhillkpkaaDoorRfB
namespace Go.Proofs.YtmikkbhillkpkaaDoor
open Go.RowKit Go.Lib Go.Shelf
attribute [local go_sem] Oper.semAt_some
set_option linter.unusedSimpArgs false
set_option linter.unusedVariables false

set_option maxRecDepth 100000 in
set_option maxHeartbeats 1000000 in
theorem hput_same (p : Nat) (f : Int) (a0 a1 a2 a3 : Int) (S Q : ByteArray) (hE : ∀ (W : World) (V : HR), HV W V → Calls Tryd.prog 10 #[.agg #[.int .i64 a0, .int .i64 a1, .int .i64 a2, .int .i64 a3]] W fun e w' => e = .returned (.tuple #[.string S, .int .i64 0]) ∧ Below W.heap.size W w') (w : World) (V : HR) (hV : HV w V) (hL : ∀ W, Below w.heap.size w W → Calls Tryd.prog 38 #[.pointer (some ⟨p, 0, none⟩), .int .i64 f] W fun e w' => e = .returned (.tuple #[.string Q, .nilIface]) ∧ Below W.heap.size W w') (hD : ∀ W, Below w.heap.size w W → Calls Tryd.prog 33 #[.string Q] W fun e w' => e = .returned (.tuple #[.agg #[.int .i64 a0, .int .i64 a1, .int .i64 a2, .int .i64 a3], .nilIface]) ∧ Below W.heap.size W w') : Calls Tryd.prog 22 #[.pointer (some ⟨p, 0, none⟩), .int .i64 f, .agg #[.int .i64 a0, .int .i64 a1, .int .i64 a2, .int .i64 a3]] w fun e w' => e = .returned (.int .i64 0) ∧ Below w.heap.size w w' := by
  have HVV := Lib.hid hV
  have HE := Lib.hid hE
  have HL := Lib.hid hL
  have HD := Lib.hid hD
  have HB := Lib.hid (Below.refl w.heap.size w)
  clear hV hE hL hD
  go_enter Tryd.func22, Tryd.ntmps22
  have HB := Lib.hid (bel_al HB.out (.cells #[.int .i64 a0, .int .i64 a1, .int .i64 a2, .int .i64 a3] 23))
  have KA := Lib.hid (Blk.new w #[.int .i64 a0, .int .i64 a1, .int .i64 a2, .int .i64 a3] 23)
  go_wp2_with fail
  generalize w.alloc (.cells #[.int .i64 a0, .int .i64 a1, .int .i64 a2, .int .i64 a3] 23) = v1 at HB KA ⊢
  ((with_reducible refine (HE.out v1 V (HVV.out.below HB.out)).mono ?_))
  rintro e u2 ⟨rfl, hb⟩
  have HB := Lib.hid (bstep HB.out hb)
  have KA := Lib.hid (KA.out.below' hb)
  clear hb
  go_wp2_with fail
  ((with_reducible refine (HL.out u2 HB.out).mono ?_))
  rintro e u3 ⟨rfl, hb⟩
  have HB := Lib.hid (bstep HB.out hb)
  have KA := Lib.hid (KA.out.below' hb)
  clear hb
  go_wp2_with fail
  ((with_reducible refine (HD.out u3 HB.out).mono ?_))
  rintro e u4 ⟨rfl, hb⟩
  have HB := Lib.hid (bstep HB.out hb)
  have KA := Lib.hid (KA.out.below' hb)
  clear hb
  have cK0 : u4.cell? ⟨w.heap.size, 0, none⟩ = some (.int .i64 a0) := KA.out.cell rfl
  have cK1 : u4.cell? ⟨w.heap.size, 1, none⟩ = some (.int .i64 a1) := KA.out.cell rfl
  have cK2 : u4.cell? ⟨w.heap.size, 2, none⟩ = some (.int .i64 a2) := KA.out.cell rfl
  have cK3 : u4.cell? ⟨w.heap.size, 3, none⟩ = some (.int .i64 a3) := KA.out.cell rfl
  have lt1 := KA.out.lt
  go_wp2
  go_ret
  refine ⟨rfl, ?_⟩
  repeat (first | exact HB.out | refine bel_al' ?_ _ | refine bel_set' ?_ (Nat.le_refl _) | refine bel_dr' ?_)
set_option maxRecDepth 100000 in
set_option maxHeartbeats 1000000 in
theorem hput_diff0 (p g : Nat) (bs : List UInt8) (f : Int) (a0 a1 a2 a3 b0 b1 b2 b3 : Int) (S Q : ByteArray) (hE : ∀ (W : World) (V : HR), HV W V → Calls Tryd.prog 10 #[.agg #[.int .i64 a0, .int .i64 a1, .int .i64 a2, .int .i64 a3]] W fun e w' => e = .returned (.tuple #[.string S, .int .i64 0]) ∧ Below W.heap.size W w') (w : World) (V : HR) (hV : HV w V) (hL : ∀ W, Below w.heap.size w W → Calls Tryd.prog 38 #[.pointer (some ⟨p, 0, none⟩), .int .i64 f] W fun e w' => e = .returned (.tuple #[.string Q, .nilIface]) ∧ Below W.heap.size W w') (hD : ∀ W, Below w.heap.size w W → Calls Tryd.prog 33 #[.string Q] W fun e w' => e = .returned (.tuple #[.agg #[.int .i64 b0, .int .i64 b1, .int .i64 b2, .int .i64 b3], .nilIface]) ∧ Below W.heap.size W w') (hne : b0 ≠ a0) (hW : ∀ W, Below w.heap.size w W → Calls Tryd.prog 23 #[.pointer (some ⟨p, 0, none⟩), .int .i64 f, .string S] W fun e w' => e = .returned (.int .i64 0) ∧ Ar w' p g bs ∧ Upd g W w') : Calls Tryd.prog 22 #[.pointer (some ⟨p, 0, none⟩), .int .i64 f, .agg #[.int .i64 a0, .int .i64 a1, .int .i64 a2, .int .i64 a3]] w fun e w' => e = .returned (.int .i64 0) ∧ Ar w' p g bs ∧ PutPost g w w' := by
  have HVV := Lib.hid hV
  have HE := Lib.hid hE
  have HL := Lib.hid hL
  have HD := Lib.hid hD
  have HW := Lib.hid hW
  have e0 : (b0 == a0) = false := by simpa using hne
  have HB := Lib.hid (Below.refl w.heap.size w)
  clear hV hE hL hD hW hne
  go_enter Tryd.func22, Tryd.ntmps22
  have HB := Lib.hid (bel_al HB.out (.cells #[.int .i64 a0, .int .i64 a1, .int .i64 a2, .int .i64 a3] 23))
  have KA := Lib.hid (Blk.new w #[.int .i64 a0, .int .i64 a1, .int .i64 a2, .int .i64 a3] 23)
  go_wp2_with fail
  generalize w.alloc (.cells #[.int .i64 a0, .int .i64 a1, .int .i64 a2, .int .i64 a3] 23) = v1 at HB KA ⊢
  ((with_reducible refine (HE.out v1 V (HVV.out.below HB.out)).mono ?_))
  rintro e u2 ⟨rfl, hb⟩
  have HB := Lib.hid (bstep HB.out hb)
  have KA := Lib.hid (KA.out.below' hb)
  clear hb
  go_wp2_with fail
  ((with_reducible refine (HL.out u2 HB.out).mono ?_))
  rintro e u3 ⟨rfl, hb⟩
  have HB := Lib.hid (bstep HB.out hb)
  have KA := Lib.hid (KA.out.below' hb)
  clear hb
  go_wp2_with fail
  ((with_reducible refine (HD.out u3 HB.out).mono ?_))
  rintro e u4 ⟨rfl, hb⟩
  have HB := Lib.hid (bstep HB.out hb)
  have KA := Lib.hid (KA.out.below' hb)
  clear hb
  have ltKA := KA.out.lt
  have cKA0 : u4.cell? ⟨w.heap.size, 0, none⟩ = some (.int .i64 a0) := KA.out.cell rfl
  have cKA1 : u4.cell? ⟨w.heap.size, 1, none⟩ = some (.int .i64 a1) := KA.out.cell rfl
  have cKA2 : u4.cell? ⟨w.heap.size, 2, none⟩ = some (.int .i64 a2) := KA.out.cell rfl
  have cKA3 : u4.cell? ⟨w.heap.size, 3, none⟩ = some (.int .i64 a3) := KA.out.cell rfl
  have HB := Lib.hid (bel_al HB.out (.cells #[.int .i64 b0, .int .i64 b1, .int .i64 b2, .int .i64 b3] 23))
  have KA := Lib.hid (KA.out.alloc (.cells #[.int .i64 b0, .int .i64 b1, .int .i64 b2, .int .i64 b3] 23))
  have KD := Lib.hid (Blk.new u4 #[.int .i64 b0, .int .i64 b1, .int .i64 b2, .int .i64 b3] 23)
  go_wp2_with fail
  generalize u4.alloc (.cells #[.int .i64 b0, .int .i64 b1, .int .i64 b2, .int .i64 b3] 23) = v5 at HB KA KD ⊢
  clear ltKA cKA0 cKA1 cKA2 cKA3
  ((with_reducible refine (HW.out v5 HB.out).mono ?_))
  rintro e w' ⟨rfl, hA, hU⟩
  have HA := Lib.hid hA
  have HU := Lib.hid hU
  clear hA hU
  go_wp2
  go_ret
  exact ⟨rfl, HA.out, _, HB.out, HU.out⟩
set_option maxRecDepth 100000 in
set_option maxHeartbeats 1000000 in
theorem hput_diff1 (p g : Nat) (bs : List UInt8) (f : Int) (a0 a1 a2 a3 b1 b2 b3 : Int) (S Q : ByteArray) (hE : ∀ (W : World) (V : HR), HV W V → Calls Tryd.prog 10 #[.agg #[.int .i64 a0, .int .i64 a1, .int .i64 a2, .int .i64 a3]] W fun e w' => e = .returned (.tuple #[.string S, .int .i64 0]) ∧ Below W.heap.size W w') (w : World) (V : HR) (hV : HV w V) (hL : ∀ W, Below w.heap.size w W → Calls Tryd.prog 38 #[.pointer (some ⟨p, 0, none⟩), .int .i64 f] W fun e w' => e = .returned (.tuple #[.string Q, .nilIface]) ∧ Below W.heap.size W w') (hD : ∀ W, Below w.heap.size w W → Calls Tryd.prog 33 #[.string Q] W fun e w' => e = .returned (.tuple #[.agg #[.int .i64 a0, .int .i64 b1, .int .i64 b2, .int .i64 b3], .nilIface]) ∧ Below W.heap.size W w') (hne : b1 ≠ a1) (hW : ∀ W, Below w.heap.size w W → Calls Tryd.prog 23 #[.pointer (some ⟨p, 0, none⟩), .int .i64 f, .string S] W fun e w' => e = .returned (.int .i64 0) ∧ Ar w' p g bs ∧ Upd g W w') : Calls Tryd.prog 22 #[.pointer (some ⟨p, 0, none⟩), .int .i64 f, .agg #[.int .i64 a0, .int .i64 a1, .int .i64 a2, .int .i64 a3]] w fun e w' => e = .returned (.int .i64 0) ∧ Ar w' p g bs ∧ PutPost g w w' := by
  have HVV := Lib.hid hV
  have HE := Lib.hid hE
  have HL := Lib.hid hL
  have HD := Lib.hid hD
  have HW := Lib.hid hW
  have e0 : (b1 == a1) = false := by simpa using hne
  have HB := Lib.hid (Below.refl w.heap.size w)
  clear hV hE hL hD hW hne
  go_enter Tryd.func22, Tryd.ntmps22
  have HB := Lib.hid (bel_al HB.out (.cells #[.int .i64 a0, .int .i64 a1, .int .i64 a2, .int .i64 a3] 23))
  have KA := Lib.hid (Blk.new w #[.int .i64 a0, .int .i64 a1, .int .i64 a2, .int .i64 a3] 23)
  go_wp2_with fail
  generalize w.alloc (.cells #[.int .i64 a0, .int .i64 a1, .int .i64 a2, .int .i64 a3] 23) = v1 at HB KA ⊢
  ((with_reducible refine (HE.out v1 V (HVV.out.below HB.out)).mono ?_))
  rintro e u2 ⟨rfl, hb⟩
  have HB := Lib.hid (bstep HB.out hb)
  have KA := Lib.hid (KA.out.below' hb)
  clear hb
  go_wp2_with fail
  ((with_reducible refine (HL.out u2 HB.out).mono ?_))
  rintro e u3 ⟨rfl, hb⟩
  have HB := Lib.hid (bstep HB.out hb)
  have KA := Lib.hid (KA.out.below' hb)
  clear hb
  go_wp2_with fail
  ((with_reducible refine (HD.out u3 HB.out).mono ?_))
  rintro e u4 ⟨rfl, hb⟩
  have HB := Lib.hid (bstep HB.out hb)
  have KA := Lib.hid (KA.out.below' hb)
  clear hb
  have ltKA := KA.out.lt
  have cKA0 : u4.cell? ⟨w.heap.size, 0, none⟩ = some (.int .i64 a0) := KA.out.cell rfl
  have cKA1 : u4.cell? ⟨w.heap.size, 1, none⟩ = some (.int .i64 a1) := KA.out.cell rfl
  have cKA2 : u4.cell? ⟨w.heap.size, 2, none⟩ = some (.int .i64 a2) := KA.out.cell rfl
  have cKA3 : u4.cell? ⟨w.heap.size, 3, none⟩ = some (.int .i64 a3) := KA.out.cell rfl
  have HB := Lib.hid (bel_al HB.out (.cells #[.int .i64 a0, .int .i64 b1, .int .i64 b2, .int .i64 b3] 23))
  have KA := Lib.hid (KA.out.alloc (.cells #[.int .i64 a0, .int .i64 b1, .int .i64 b2, .int .i64 b3] 23))
  have KD := Lib.hid (Blk.new u4 #[.int .i64 a0, .int .i64 b1, .int .i64 b2, .int .i64 b3] 23)
  go_wp2_with fail
  generalize u4.alloc (.cells #[.int .i64 a0, .int .i64 b1, .int .i64 b2, .int .i64 b3] 23) = v5 at HB KA KD ⊢
  clear ltKA cKA0 cKA1 cKA2 cKA3
  ((with_reducible refine (HW.out v5 HB.out).mono ?_))
  rintro e w' ⟨rfl, hA, hU⟩
  have HA := Lib.hid hA
  have HU := Lib.hid hU
  clear hA hU
  go_wp2
  go_ret
  exact ⟨rfl, HA.out, _, HB.out, HU.out⟩
set_option maxRecDepth 100000 in
set_option maxHeartbeats 1000000 in
theorem hput_diff2 (p g : Nat) (bs : List UInt8) (f : Int) (a0 a1 a2 a3 b2 b3 : Int) (S Q : ByteArray) (hE : ∀ (W : World) (V : HR), HV W V → Calls Tryd.prog 10 #[.agg #[.int .i64 a0, .int .i64 a1, .int .i64 a2, .int .i64 a3]] W fun e w' => e = .returned (.tuple #[.string S, .int .i64 0]) ∧ Below W.heap.size W w') (w : World) (V : HR) (hV : HV w V) (hL : ∀ W, Below w.heap.size w W → Calls Tryd.prog 38 #[.pointer (some ⟨p, 0, none⟩), .int .i64 f] W fun e w' => e = .returned (.tuple #[.string Q, .nilIface]) ∧ Below W.heap.size W w') (hD : ∀ W, Below w.heap.size w W → Calls Tryd.prog 33 #[.string Q] W fun e w' => e = .returned (.tuple #[.agg #[.int .i64 a0, .int .i64 a1, .int .i64 b2, .int .i64 b3], .nilIface]) ∧ Below W.heap.size W w') (hne : b2 ≠ a2) (hW : ∀ W, Below w.heap.size w W → Calls Tryd.prog 23 #[.pointer (some ⟨p, 0, none⟩), .int .i64 f, .string S] W fun e w' => e = .returned (.int .i64 0) ∧ Ar w' p g bs ∧ Upd g W w') : Calls Tryd.prog 22 #[.pointer (some ⟨p, 0, none⟩), .int .i64 f, .agg #[.int .i64 a0, .int .i64 a1, .int .i64 a2, .int .i64 a3]] w fun e w' => e = .returned (.int .i64 0) ∧ Ar w' p g bs ∧ PutPost g w w' := by
  have HVV := Lib.hid hV
  have HE := Lib.hid hE
  have HL := Lib.hid hL
  have HD := Lib.hid hD
  have HW := Lib.hid hW
  have e0 : (b2 == a2) = false := by simpa using hne
  have HB := Lib.hid (Below.refl w.heap.size w)
  clear hV hE hL hD hW hne
  go_enter Tryd.func22, Tryd.ntmps22
  have HB := Lib.hid (bel_al HB.out (.cells #[.int .i64 a0, .int .i64 a1, .int .i64 a2, .int .i64 a3] 23))
  have KA := Lib.hid (Blk.new w #[.int .i64 a0, .int .i64 a1, .int .i64 a2, .int .i64 a3] 23)
  go_wp2_with fail
  generalize w.alloc (.cells #[.int .i64 a0, .int .i64 a1, .int .i64 a2, .int .i64 a3] 23) = v1 at HB KA ⊢
  ((with_reducible refine (HE.out v1 V (HVV.out.below HB.out)).mono ?_))
  rintro e u2 ⟨rfl, hb⟩
  have HB := Lib.hid (bstep HB.out hb)
  have KA := Lib.hid (KA.out.below' hb)
  clear hb
  go_wp2_with fail
  ((with_reducible refine (HL.out u2 HB.out).mono ?_))
  rintro e u3 ⟨rfl, hb⟩
  have HB := Lib.hid (bstep HB.out hb)
  have KA := Lib.hid (KA.out.below' hb)
  clear hb
  go_wp2_with fail
  ((with_reducible refine (HD.out u3 HB.out).mono ?_))
  rintro e u4 ⟨rfl, hb⟩
  have HB := Lib.hid (bstep HB.out hb)
  have KA := Lib.hid (KA.out.below' hb)
  clear hb
  have ltKA := KA.out.lt
  have cKA0 : u4.cell? ⟨w.heap.size, 0, none⟩ = some (.int .i64 a0) := KA.out.cell rfl
  have cKA1 : u4.cell? ⟨w.heap.size, 1, none⟩ = some (.int .i64 a1) := KA.out.cell rfl
  have cKA2 : u4.cell? ⟨w.heap.size, 2, none⟩ = some (.int .i64 a2) := KA.out.cell rfl
  have cKA3 : u4.cell? ⟨w.heap.size, 3, none⟩ = some (.int .i64 a3) := KA.out.cell rfl
  have HB := Lib.hid (bel_al HB.out (.cells #[.int .i64 a0, .int .i64 a1, .int .i64 b2, .int .i64 b3] 23))
  have KA := Lib.hid (KA.out.alloc (.cells #[.int .i64 a0, .int .i64 a1, .int .i64 b2, .int .i64 b3] 23))
  have KD := Lib.hid (Blk.new u4 #[.int .i64 a0, .int .i64 a1, .int .i64 b2, .int .i64 b3] 23)
  go_wp2_with fail
  generalize u4.alloc (.cells #[.int .i64 a0, .int .i64 a1, .int .i64 b2, .int .i64 b3] 23) = v5 at HB KA KD ⊢
  clear ltKA cKA0 cKA1 cKA2 cKA3
  ((with_reducible refine (HW.out v5 HB.out).mono ?_))
  rintro e w' ⟨rfl, hA, hU⟩
  have HA := Lib.hid hA
  have HU := Lib.hid hU
  clear hA hU
  go_wp2
  go_ret
  exact ⟨rfl, HA.out, _, HB.out, HU.out⟩
set_option maxRecDepth 100000 in
set_option maxHeartbeats 1000000 in
theorem hput_diff3 (p g : Nat) (bs : List UInt8) (f : Int) (a0 a1 a2 a3 b3 : Int) (S Q : ByteArray) (hE : ∀ (W : World) (V : HR), HV W V → Calls Tryd.prog 10 #[.agg #[.int .i64 a0, .int .i64 a1, .int .i64 a2, .int .i64 a3]] W fun e w' => e = .returned (.tuple #[.string S, .int .i64 0]) ∧ Below W.heap.size W w') (w : World) (V : HR) (hV : HV w V) (hL : ∀ W, Below w.heap.size w W → Calls Tryd.prog 38 #[.pointer (some ⟨p, 0, none⟩), .int .i64 f] W fun e w' => e = .returned (.tuple #[.string Q, .nilIface]) ∧ Below W.heap.size W w') (hD : ∀ W, Below w.heap.size w W → Calls Tryd.prog 33 #[.string Q] W fun e w' => e = .returned (.tuple #[.agg #[.int .i64 a0, .int .i64 a1, .int .i64 a2, .int .i64 b3], .nilIface]) ∧ Below W.heap.size W w') (hne : b3 ≠ a3) (hW : ∀ W, Below w.heap.size w W → Calls Tryd.prog 23 #[.pointer (some ⟨p, 0, none⟩), .int .i64 f, .string S] W fun e w' => e = .returned (.int .i64 0) ∧ Ar w' p g bs ∧ Upd g W w') : Calls Tryd.prog 22 #[.pointer (some ⟨p, 0, none⟩), .int .i64 f, .agg #[.int .i64 a0, .int .i64 a1, .int .i64 a2, .int .i64 a3]] w fun e w' => e = .returned (.int .i64 0) ∧ Ar w' p g bs ∧ PutPost g w w' := by
  have HVV := Lib.hid hV
  have HE := Lib.hid hE
  have HL := Lib.hid hL
  have HD := Lib.hid hD
  have HW := Lib.hid hW
  have e0 : (b3 == a3) = false := by simpa using hne
  have HB := Lib.hid (Below.refl w.heap.size w)
  clear hV hE hL hD hW hne
  go_enter Tryd.func22, Tryd.ntmps22
  have HB := Lib.hid (bel_al HB.out (.cells #[.int .i64 a0, .int .i64 a1, .int .i64 a2, .int .i64 a3] 23))
  have KA := Lib.hid (Blk.new w #[.int .i64 a0, .int .i64 a1, .int .i64 a2, .int .i64 a3] 23)
  go_wp2_with fail
  generalize w.alloc (.cells #[.int .i64 a0, .int .i64 a1, .int .i64 a2, .int .i64 a3] 23) = v1 at HB KA ⊢
  ((with_reducible refine (HE.out v1 V (HVV.out.below HB.out)).mono ?_))
  rintro e u2 ⟨rfl, hb⟩
  have HB := Lib.hid (bstep HB.out hb)
  have KA := Lib.hid (KA.out.below' hb)
  clear hb
  go_wp2_with fail
  ((with_reducible refine (HL.out u2 HB.out).mono ?_))
  rintro e u3 ⟨rfl, hb⟩
  have HB := Lib.hid (bstep HB.out hb)
  have KA := Lib.hid (KA.out.below' hb)
  clear hb
  go_wp2_with fail
  ((with_reducible refine (HD.out u3 HB.out).mono ?_))
  rintro e u4 ⟨rfl, hb⟩
  have HB := Lib.hid (bstep HB.out hb)
  have KA := Lib.hid (KA.out.below' hb)
  clear hb
  have ltKA := KA.out.lt
  have cKA0 : u4.cell? ⟨w.heap.size, 0, none⟩ = some (.int .i64 a0) := KA.out.cell rfl
  have cKA1 : u4.cell? ⟨w.heap.size, 1, none⟩ = some (.int .i64 a1) := KA.out.cell rfl
  have cKA2 : u4.cell? ⟨w.heap.size, 2, none⟩ = some (.int .i64 a2) := KA.out.cell rfl
  have cKA3 : u4.cell? ⟨w.heap.size, 3, none⟩ = some (.int .i64 a3) := KA.out.cell rfl
  have HB := Lib.hid (bel_al HB.out (.cells #[.int .i64 a0, .int .i64 a1, .int .i64 a2, .int .i64 b3] 23))
  have KA := Lib.hid (KA.out.alloc (.cells #[.int .i64 a0, .int .i64 a1, .int .i64 a2, .int .i64 b3] 23))
  have KD := Lib.hid (Blk.new u4 #[.int .i64 a0, .int .i64 a1, .int .i64 a2, .int .i64 b3] 23)
  go_wp2_with fail
  generalize u4.alloc (.cells #[.int .i64 a0, .int .i64 a1, .int .i64 a2, .int .i64 b3] 23) = v5 at HB KA KD ⊢
  clear ltKA cKA0 cKA1 cKA2 cKA3
  ((with_reducible refine (HW.out v5 HB.out).mono ?_))
  rintro e w' ⟨rfl, hA, hU⟩
  have HA := Lib.hid hA
  have HU := Lib.hid hU
  clear hA hU
  go_wp2
  go_ret
  exact ⟨rfl, HA.out, _, HB.out, HU.out⟩
theorem decL_eq {l : List UInt8} {m : Mk} (h : decL l = some m) : ∃ K L C E : Nat, m = mkN K L C E ∧ ((1 ≤ K ∧ K ≤ 60) ∧ L ≤ 40000 ∧ (1 ≤ C ∧ C ≤ 3) ∧ E ≤ 255) ∧ l = hd8 K L C E := by
  unfold decL at h
  split at h
  · split at h
    · rename_i hc
      injection h with h
      rcases mk_split m with hr | ⟨K, L, C, E, he, hK, hL, hC, hE⟩
      · rw [h] at hc
        rw [hr] at hc
        exact absurd hc.1 (by decide)
      · have h2 := h.trans he
        simp only [mkN, Mk.mk.injEq, Int.ofNat_inj] at h2
        obtain ⟨e1, e2, e3, e4⟩ := h2
        refine ⟨K, L, C, E, he, ⟨hK, hL, hC, hE⟩, ?_⟩
        rw [hc.2, e1, e2, e3, e4]
    · cases h
  · cases h
theorem wrL_self (bs : List UInt8) (i : Nat) (l : List UInt8) (h : (bs.drop i).take l.length = l) (hi : i ≤ bs.length) : wrL bs i l = bs := by
  rw [wrL, ← List.drop_drop]
  conv => rhs; rw [← List.take_append_drop i bs]
  rw [List.append_assoc]
  congr 1
  conv => rhs; rw [← List.take_append_drop l.length (bs.drop i)]
  rw [h]
theorem hput_any {K L C E : Nat} (hK : 1 ≤ K ∧ K ≤ 60) (hL : L ≤ 40000) (hC : 1 ≤ C ∧ C ≤ 3) (hE : E ≤ 255) (p g i : Nat) (bs : List UInt8) (h8 : i % 8 = 0) (hi : i + 8 ≤ bs.length) (w : World) (V : HR) (hV : HV w V) (hA : Ar w p g bs) :
    Calls Tryd.prog 22 #[.pointer (some ⟨p, 0, none⟩), .int .i64 (i : Int), .agg (mkA (mkN K L C E))] w fun e w' => e = .returned (.int .i64 0) ∧ Ar w' p g (wrL bs i (hd8 K L C E)) ∧ PutPost g w w' := by
  have hEn := fun W V h => henc_yes K L C E hK hL hC hE W V h
  have hLo := fun W (hW : Below w.heap.size w W) => hload_ok p g bs i W (hA.below hW) h8 hi
  have hDe := fun W (hW : Below w.heap.size w W) => hdecode_any ⟨((bs.drop i).take 8).toArray⟩ W V (hV.below hW)
  have hWr := fun W (hW : Below w.heap.size w W) => write_ok p g bs i ⟨(hd8 K L C E).toArray⟩ W (hA.below hW) (by rw [show (⟨(hd8 K L C E).toArray⟩ : ByteArray).size = 8 from hd8_len K L C E]; exact hi)
  have hr : ((⟨((bs.drop i).take 8).toArray⟩ : ByteArray)).data.toList = (bs.drop i).take 8 := rfl
  rw [hr] at hDe
  cases hd : decL ((bs.drop i).take 8) with
  | none =>
    rw [hd] at hDe
    exact hput_new p g _ i _ _ _ _ _ _ hEn w V hV hLo hDe hWr
  | some m =>
    rw [hd] at hDe
    obtain ⟨K', L', C', E', rfl, _, he⟩ := decL_eq hd
    by_cases h0 : K' = K
    · subst h0
      by_cases h1 : L' = L
      · subst h1
        by_cases h2 : C' = C
        · subst h2
          by_cases h3 : E' = E
          · subst h3
            refine (hput_same p i _ _ _ _ _ _ hEn w V hV hLo hDe).mono ?_
            rintro e w' ⟨rfl, hb⟩
            refine ⟨rfl, ?_, w', hb, Upd.refl g w'⟩
            rw [wrL_self bs i _ (by rw [hd8_len]; exact he) (by omega)]
            exact hA.below hb
          · exact hput_diff3 p g _ i _ _ _ _ _ _ _ hEn w V hV hLo hDe (fun e => h3 (Int.ofNat_inj.1 e)) hWr
        · exact hput_diff2 p g _ i _ _ _ _ _ _ _ _ hEn w V hV hLo hDe (fun e => h2 (Int.ofNat_inj.1 e)) hWr
      · exact hput_diff1 p g _ i _ _ _ _ _ _ _ _ _ hEn w V hV hLo hDe (fun e => h1 (Int.ofNat_inj.1 e)) hWr
    · exact hput_diff0 p g _ i _ _ _ _ _ _ _ _ _ _ hEn w V hV hLo hDe (fun e => h0 (Int.ofNat_inj.1 e)) hWr
/-- What Get answers. -/
def getM (bs : List UInt8) (f : Int) : Option Mk := if f.tmod 8 = 0 ∧ okB bs.length f 8 1 then decL ((bs.drop f.toNat).take 8) else none
def getE (bs : List UInt8) (f : Int) : Int := if f.tmod 8 = 0 ∧ okB bs.length f 8 1 then (if (getM bs f).isSome then 0 else 60) else 10
theorem getM_no {bs : List UInt8} {f : Int} (h : ¬ (f.tmod 8 = 0 ∧ okB bs.length f 8 1)) : getM bs f = none := if_neg h
theorem getE_no {bs : List UInt8} {f : Int} (h : ¬ (f.tmod 8 = 0 ∧ okB bs.length f 8 1)) : getE bs f = 10 := if_neg h
theorem get_place {n : Nat} {f : Int} (h : f.tmod 8 = 0 ∧ okB n f 8 1) : ∃ i : Nat, f = i ∧ i % 8 = 0 ∧ i + 8 ≤ n := by
  obtain ⟨h8, h1, _, h2, _⟩ := h
  refine ⟨f.toNat, by omega, ?_, by omega⟩
  rw [Int.tmod_eq_emod_of_nonneg h1] at h8
  omega
theorem hget_any (R : VR) (f : Int) (hf : InI f) (p g : Nat) (bs : List UInt8) (W : World) (V : HR) (hV : HV W V) (hR : RV W R) (hA : Ar W p g bs) :
    Calls Tryd.prog 21 #[.pointer (some ⟨p, 0, none⟩), .int .i64 f] W fun e w' => e = .returned (.tuple #[.agg (marO (getM bs f)), .int .i64 (getE bs f)]) ∧ Below W.heap.size W w' := by
  by_cases h : f.tmod 8 = 0 ∧ okB bs.length f 8 1
  · have e1 : getM bs f = decL ((bs.drop f.toNat).take 8) := if_pos h
    have e2 : getE bs f = if (getM bs f).isSome then 0 else 60 := if_pos h
    obtain ⟨i, rfl, h8, hi⟩ := get_place h
    rw [e2, e1, show ((i : Int)).toNat = i from rfl]
    have hm : ∃ m : Mk, marO (decL ((bs.drop i).take 8)) = mkA m := by
      cases decL ((bs.drop i).take 8) with
      | none => exact ⟨⟨0, 0, 0, 0⟩, rfl⟩
      | some m => exact ⟨m, rfl⟩
    obtain ⟨m, hm⟩ := hm
    have hD := fun U (hU : Below W.heap.size W U) => hDec_any ⟨((bs.drop i).take 8).toArray⟩ U V (hV.below hU)
    have hr : ((⟨((bs.drop i).take 8).toArray⟩ : ByteArray)).data.toList = (bs.drop i).take 8 := rfl
    rw [hr, hm] at hD
    rw [hm]
    exact hget_ok p i _ _ _ _ _ _ W (fun U hU => hload_ok p g bs i U (hA.below hU) h8 hi) hD
  · rw [getM_no h, getE_no h]
    refine hget_err p f W V hV fun U hU => ?_
    by_cases h8 : f.tmod 8 = 0
    · exact hload_bad V R p g bs f U (hV.below hU) (hR.below hU) (hA.below hU) hf h8 (fun hk => h ⟨h8, hk⟩)
    · exact hload_odd V p f U (hV.below hU) h8
set_option maxRecDepth 100000 in
set_option maxHeartbeats 1000000 in
theorem rget_bad (f : Int) (p : Nat) (w : World) (hR : ∀ W, Below w.heap.size w W → Calls Tryd.prog 41 #[.pointer (some ⟨p, 0, none⟩), .int .i64 f, .int .i64 8] W fun e w' => e = .returned (.tuple #[.string ⟨#[]⟩, .int .i64 10]) ∧ W = w') : Calls Tryd.prog 25 #[.pointer (some ⟨p, 0, none⟩), .int .i64 f] w fun e w' => e = .returned (.tuple #[.agg mk0, .int .i64 10]) ∧ Below w.heap.size w w' := by
  have HR := Lib.hid hR
  have HB := Lib.hid (Below.refl w.heap.size w)
  clear hR
  go_enter Tryd.func25, Tryd.ntmps25
  have HB := Lib.hid (bel_al HB.out (.cells #[.int .i64 0, .int .i64 0, .int .i64 0, .int .i64 0] 23))
  have KA := Lib.hid (Blk.new w #[.int .i64 0, .int .i64 0, .int .i64 0, .int .i64 0] 23)
  go_wp2_with fail
  generalize w.alloc (.cells #[.int .i64 0, .int .i64 0, .int .i64 0, .int .i64 0] 23) = v1 at HB KA ⊢
  ((with_reducible refine (HR.out v1 HB.out).mono ?_))
  rintro e w' ⟨rfl, rfl⟩
  have m0 : v1.cell? ⟨w.heap.size, 0, none⟩ = some (.int .i64 0) := KA.out.cell rfl
  have e0 := KA.out.frozen 0
  have m1 : v1.cell? ⟨w.heap.size, 1, none⟩ = some (.int .i64 0) := KA.out.cell rfl
  have e1 := KA.out.frozen 1
  have m2 : v1.cell? ⟨w.heap.size, 2, none⟩ = some (.int .i64 0) := KA.out.cell rfl
  have e2 := KA.out.frozen 2
  have m3 : v1.cell? ⟨w.heap.size, 3, none⟩ = some (.int .i64 0) := KA.out.cell rfl
  have e3 := KA.out.frozen 3
  have ln := KA.out.lt
  go_wp2
  refine bodyPost_ret (v := .tuple #[.agg mk0, .int .i64 10]) (by simp [results, Tryd.results25, go_sem, m0, m1, m2, m3, e0, e1, e2, e3, ln]) rfl ⟨rfl, ?_⟩
  repeat (first | exact HB.out | refine bel_al' ?_ _ | refine bel_set' ?_ (Nat.le_refl _) | refine bel_dr' ?_)
set_option maxRecDepth 100000 in
set_option maxHeartbeats 1000000 in
theorem rget_odd (f : Int) (p : Nat) (w : World) (T : ByteArray) (hR : ∀ W, Below w.heap.size w W → Calls Tryd.prog 41 #[.pointer (some ⟨p, 0, none⟩), .int .i64 f, .int .i64 8] W fun e w' => e = .returned (.tuple #[.string T, .int .i64 0]) ∧ W = w') (h : f.tmod 8 ≠ 0) : Calls Tryd.prog 25 #[.pointer (some ⟨p, 0, none⟩), .int .i64 f] w fun e w' => e = .returned (.tuple #[.agg mk0, .int .i64 10]) ∧ Below w.heap.size w w' := by
  have HR := Lib.hid hR
  have hd : (f.tmod 8 != 0) = true := by simpa using h
  have HB := Lib.hid (Below.refl w.heap.size w)
  clear hR h
  go_enter Tryd.func25, Tryd.ntmps25
  have HB := Lib.hid (bel_al HB.out (.cells #[.int .i64 0, .int .i64 0, .int .i64 0, .int .i64 0] 23))
  have KA := Lib.hid (Blk.new w #[.int .i64 0, .int .i64 0, .int .i64 0, .int .i64 0] 23)
  go_wp2_with fail
  generalize w.alloc (.cells #[.int .i64 0, .int .i64 0, .int .i64 0, .int .i64 0] 23) = v1 at HB KA ⊢
  ((with_reducible refine (HR.out v1 HB.out).mono ?_))
  rintro e w' ⟨rfl, rfl⟩
  have m0 : v1.cell? ⟨w.heap.size, 0, none⟩ = some (.int .i64 0) := KA.out.cell rfl
  have e0 := KA.out.frozen 0
  have m1 : v1.cell? ⟨w.heap.size, 1, none⟩ = some (.int .i64 0) := KA.out.cell rfl
  have e1 := KA.out.frozen 1
  have m2 : v1.cell? ⟨w.heap.size, 2, none⟩ = some (.int .i64 0) := KA.out.cell rfl
  have e2 := KA.out.frozen 2
  have m3 : v1.cell? ⟨w.heap.size, 3, none⟩ = some (.int .i64 0) := KA.out.cell rfl
  have e3 := KA.out.frozen 3
  have ln := KA.out.lt
  go_wp2
  refine bodyPost_ret (v := .tuple #[.agg mk0, .int .i64 10]) (by simp [results, Tryd.results25, go_sem, m0, m1, m2, m3, e0, e1, e2, e3, ln]) rfl ⟨rfl, ?_⟩
  repeat (first | exact HB.out | refine bel_al' ?_ _ | refine bel_set' ?_ (Nat.le_refl _) | refine bel_dr' ?_)
set_option maxRecDepth 100000 in
set_option maxHeartbeats 1000000 in
theorem rget_ok (f : Int) (p : Nat) (w : World) (T : ByteArray) (b0 b1 b2 b3 D : Int) (hR : ∀ W, Below w.heap.size w W → Calls Tryd.prog 41 #[.pointer (some ⟨p, 0, none⟩), .int .i64 f, .int .i64 8] W fun e w' => e = .returned (.tuple #[.string T, .int .i64 0]) ∧ W = w') (h : f.tmod 8 = 0) (hD : ∀ W, Below w.heap.size w W → Calls Tryd.prog 14 #[.string T] W fun e w' => e = .returned (.tuple #[.agg #[.int .i64 b0, .int .i64 b1, .int .i64 b2, .int .i64 b3], .int .i64 D]) ∧ Below W.heap.size W w') : Calls Tryd.prog 25 #[.pointer (some ⟨p, 0, none⟩), .int .i64 f] w fun e w' => e = .returned (.tuple #[.agg #[.int .i64 b0, .int .i64 b1, .int .i64 b2, .int .i64 b3], .int .i64 D]) ∧ Below w.heap.size w w' := by
  have HR := Lib.hid hR
  have HD := Lib.hid hD
  have hd : (f.tmod 8 != 0) = false := by simpa using h
  have HB := Lib.hid (Below.refl w.heap.size w)
  clear hR hD h
  go_enter Tryd.func25, Tryd.ntmps25
  have HB := Lib.hid (bel_al HB.out (.cells #[.int .i64 0, .int .i64 0, .int .i64 0, .int .i64 0] 23))
  have KA := Lib.hid (Blk.new w #[.int .i64 0, .int .i64 0, .int .i64 0, .int .i64 0] 23)
  go_wp2_with fail
  generalize w.alloc (.cells #[.int .i64 0, .int .i64 0, .int .i64 0, .int .i64 0] 23) = v1 at HB KA ⊢
  ((with_reducible refine (HR.out v1 HB.out).mono ?_))
  rintro e w' ⟨rfl, rfl⟩
  go_wp2_with fail
  ((with_reducible refine (HD.out v1 HB.out).mono ?_))
  rintro e u2 ⟨rfl, hb⟩
  have HB := Lib.hid (bstep HB.out hb)
  have KA := Lib.hid (KA.out.below' hb)
  clear hb
  have m0 : u2.cell? ⟨w.heap.size, 0, none⟩ = some (.int .i64 0) := KA.out.cell rfl
  have e0 := KA.out.frozen 0
  have m1 : u2.cell? ⟨w.heap.size, 1, none⟩ = some (.int .i64 0) := KA.out.cell rfl
  have e1 := KA.out.frozen 1
  have m2 : u2.cell? ⟨w.heap.size, 2, none⟩ = some (.int .i64 0) := KA.out.cell rfl
  have e2 := KA.out.frozen 2
  have m3 : u2.cell? ⟨w.heap.size, 3, none⟩ = some (.int .i64 0) := KA.out.cell rfl
  have e3 := KA.out.frozen 3
  have ln := KA.out.lt
  go_wp2
  refine bodyPost_ret (v := .tuple #[.agg #[.int .i64 b0, .int .i64 b1, .int .i64 b2, .int .i64 b3], .int .i64 D]) (by simp [results, Tryd.results25, go_sem, m0, m1, m2, m3, e0, e1, e2, e3, ln]) rfl ⟨rfl, ?_⟩
  repeat (first | exact HB.out | refine bel_al' ?_ _ | refine bel_set' ?_ (Nat.le_refl _) | refine bel_dr' ?_)
theorem rget_any (f : Int) (hf : InI f) (p g : Nat) (bs : List UInt8) (W : World) (hA : Rr W p g bs) :
    Calls Tryd.prog 25 #[.pointer (some ⟨p, 0, none⟩), .int .i64 f] W fun e w' => e = .returned (.tuple #[.agg (marO (getM bs f)), .int .i64 (getE bs f)]) ∧ Below W.heap.size W w' := by
  by_cases h : f.tmod 8 = 0 ∧ okB bs.length f 8 1
  · have e1 : getM bs f = decL ((bs.drop f.toNat).take 8) := if_pos h
    have e2 : getE bs f = if (getM bs f).isSome then 0 else 60 := if_pos h
    have h80 := h.1
    obtain ⟨i, rfl, h8, hi⟩ := get_place h
    rw [e2, e1, show ((i : Int)).toNat = i from rfl]
    have hm : ∃ m : Mk, marO (decL ((bs.drop i).take 8)) = mkA m := by
      cases decL ((bs.drop i).take 8) with
      | none => exact ⟨⟨0, 0, 0, 0⟩, rfl⟩
      | some m => exact ⟨m, rfl⟩
    obtain ⟨m, hm⟩ := hm
    have hD := fun U (_ : Below W.heap.size W U) => rDec_any ⟨((bs.drop i).take 8).toArray⟩ U
    have hr : ((⟨((bs.drop i).take 8).toArray⟩ : ByteArray)).data.toList = (bs.drop i).take 8 := rfl
    rw [hr, hm] at hD
    rw [hm]
    exact rget_ok i p W _ _ _ _ _ _ (fun U hU => rread_ok p g bs i 8 U (hA.below hU) hi) h80 hD
  · rw [getM_no h, getE_no h]
    by_cases hk : okB bs.length f 8 1
    · obtain ⟨h1, _, h2, _⟩ := id hk
      have h8 : f.tmod 8 ≠ 0 := fun h8 => h ⟨h8, hk⟩
      obtain ⟨i, rfl⟩ : ∃ i : Nat, f = i := ⟨f.toNat, by omega⟩
      exact rget_odd i p W _ (fun U hU => rread_ok p g bs i 8 U (hA.below hU) (by omega)) h8
    · exact rget_bad f p W (fun U hU => rread_bad p g bs f 8 U (hA.below hU) hf hk)
set_option maxRecDepth 100000 in
set_option maxHeartbeats 1000000 in
theorem rput_no (p : Nat) (f a0 a1 a2 a3 : Int) (hE : ∀ W, Calls Tryd.prog 11 #[.agg #[.int .i64 a0, .int .i64 a1, .int .i64 a2, .int .i64 a3]] W fun e w' => e = .returned (.tuple #[.string ⟨#[]⟩, .int .i64 60]) ∧ Below W.heap.size W w') (w : World) : Calls Tryd.prog 26 #[.pointer (some ⟨p, 0, none⟩), .int .i64 f, .agg #[.int .i64 a0, .int .i64 a1, .int .i64 a2, .int .i64 a3]] w fun e w' => e = .returned (.int .i64 60) ∧ Below w.heap.size w w' := by
  have HE := Lib.hid hE
  have HB := Lib.hid (Below.refl w.heap.size w)
  clear hE
  go_enter Tryd.func26, Tryd.ntmps26
  have HB := Lib.hid (bel_al HB.out (.cells #[.int .i64 a0, .int .i64 a1, .int .i64 a2, .int .i64 a3] 23))
  have KA := Lib.hid (Blk.new w #[.int .i64 a0, .int .i64 a1, .int .i64 a2, .int .i64 a3] 23)
  go_wp2_with fail
  generalize w.alloc (.cells #[.int .i64 a0, .int .i64 a1, .int .i64 a2, .int .i64 a3] 23) = v1 at HB KA ⊢
  ((with_reducible refine (HE.out v1).mono ?_))
  rintro e u2 ⟨rfl, hb⟩
  have HB := Lib.hid (bstep HB.out hb)
  have KA := Lib.hid (KA.out.below' hb)
  clear hb
  go_wp2
  go_ret
  exact ⟨rfl, HB.out⟩
set_option maxRecDepth 100000 in
set_option maxHeartbeats 1000000 in
theorem rput_odd (p : Nat) (f a0 a1 a2 a3 : Int) (S : ByteArray) (h : f.tmod 8 ≠ 0) (hE : ∀ W, Calls Tryd.prog 11 #[.agg #[.int .i64 a0, .int .i64 a1, .int .i64 a2, .int .i64 a3]] W fun e w' => e = .returned (.tuple #[.string S, .int .i64 0]) ∧ Below W.heap.size W w') (w : World) : Calls Tryd.prog 26 #[.pointer (some ⟨p, 0, none⟩), .int .i64 f, .agg #[.int .i64 a0, .int .i64 a1, .int .i64 a2, .int .i64 a3]] w fun e w' => e = .returned (.int .i64 10) ∧ Below w.heap.size w w' := by
  have HE := Lib.hid hE
  have e0 : (f.tmod 8 != 0) = true := by simpa using h
  have HB := Lib.hid (Below.refl w.heap.size w)
  clear hE h
  go_enter Tryd.func26, Tryd.ntmps26
  have HB := Lib.hid (bel_al HB.out (.cells #[.int .i64 a0, .int .i64 a1, .int .i64 a2, .int .i64 a3] 23))
  have KA := Lib.hid (Blk.new w #[.int .i64 a0, .int .i64 a1, .int .i64 a2, .int .i64 a3] 23)
  go_wp2_with fail
  generalize w.alloc (.cells #[.int .i64 a0, .int .i64 a1, .int .i64 a2, .int .i64 a3] 23) = v1 at HB KA ⊢
  ((with_reducible refine (HE.out v1).mono ?_))
  rintro e u2 ⟨rfl, hb⟩
  have HB := Lib.hid (bstep HB.out hb)
  have KA := Lib.hid (KA.out.below' hb)
  clear hb
  go_wp2
  go_ret
  exact ⟨rfl, HB.out⟩
set_option maxRecDepth 100000 in
set_option maxHeartbeats 1000000 in
theorem rput_on (p g : Nat) (cs : List UInt8) (f a0 a1 a2 a3 n : Int) (S : ByteArray) (h : f.tmod 8 = 0) (hE : ∀ W, Calls Tryd.prog 11 #[.agg #[.int .i64 a0, .int .i64 a1, .int .i64 a2, .int .i64 a3]] W fun e w' => e = .returned (.tuple #[.string S, .int .i64 0]) ∧ Below W.heap.size W w') (w : World) (hW : ∀ W, Below w.heap.size w W → Calls Tryd.prog 24 #[.pointer (some ⟨p, 0, none⟩), .int .i64 f, .string S] W fun e w' => e = .returned (.int .i64 n) ∧ Rr w' p g cs ∧ Upd g W w') : Calls Tryd.prog 26 #[.pointer (some ⟨p, 0, none⟩), .int .i64 f, .agg #[.int .i64 a0, .int .i64 a1, .int .i64 a2, .int .i64 a3]] w fun e w' => e = .returned (.int .i64 n) ∧ Rr w' p g cs ∧ PutPost g w w' := by
  have HE := Lib.hid hE
  have HW := Lib.hid hW
  have e0 : (f.tmod 8 != 0) = false := by simpa using h
  have HB := Lib.hid (Below.refl w.heap.size w)
  clear hE hW h
  go_enter Tryd.func26, Tryd.ntmps26
  have HB := Lib.hid (bel_al HB.out (.cells #[.int .i64 a0, .int .i64 a1, .int .i64 a2, .int .i64 a3] 23))
  have KA := Lib.hid (Blk.new w #[.int .i64 a0, .int .i64 a1, .int .i64 a2, .int .i64 a3] 23)
  go_wp2_with fail
  generalize w.alloc (.cells #[.int .i64 a0, .int .i64 a1, .int .i64 a2, .int .i64 a3] 23) = v1 at HB KA ⊢
  ((with_reducible refine (HE.out v1).mono ?_))
  rintro e u2 ⟨rfl, hb⟩
  have HB := Lib.hid (bstep HB.out hb)
  have KA := Lib.hid (KA.out.below' hb)
  clear hb
  go_wp2_with fail
  ((with_reducible refine (HW.out u2 HB.out).mono ?_))
  rintro e w' ⟨rfl, hA, hU⟩
  have HA := Lib.hid hA
  have HU := Lib.hid hU
  clear hA hU
  go_wp2
  go_ret
  exact ⟨rfl, HA.out, _, HB.out, HU.out⟩
/-- What Put answers, and what bytes it leaves. -/
def putZ (bs : List UInt8) (f : Int) (x : Mk) : Int × List UInt8 :=
  if rightB x = false then (60, bs) else if f.tmod 8 = 0 ∧ okB bs.length f 8 1 then (0, wrL bs f.toNat (hd8 x.k.toNat x.l.toNat x.c.toNat x.e.toNat)) else (10, bs)
theorem putZ_no {bs : List UInt8} {f : Int} {x : Mk} (h : rightB x = false) : putZ bs f x = (60, bs) := if_pos h
theorem putZ_bad {bs : List UInt8} {f : Int} {K L C E : Nat} (hK : 1 ≤ K ∧ K ≤ 60) (hL : L ≤ 40000) (hC : 1 ≤ C ∧ C ≤ 3) (hE : E ≤ 255) (h : ¬ (f.tmod 8 = 0 ∧ okB bs.length f 8 1)) : putZ bs f (mkN K L C E) = (10, bs) := by
  rw [putZ, if_neg (by rw [rightB_in hK hL hC hE]; decide), if_neg h]
theorem putZ_ok {bs : List UInt8} {i : Nat} {K L C E : Nat} (hK : 1 ≤ K ∧ K ≤ 60) (hL : L ≤ 40000) (hC : 1 ≤ C ∧ C ≤ 3) (hE : E ≤ 255) (h : (i : Int).tmod 8 = 0 ∧ okB bs.length i 8 1) : putZ bs i (mkN K L C E) = (0, wrL bs i (hd8 K L C E)) := by
  rw [putZ, if_neg (by rw [rightB_in hK hL hC hE]; decide), if_pos h]
  rfl
theorem putZ_len (bs : List UInt8) (f : Int) (x : Mk) : (putZ bs f x).2.length = bs.length := by
  unfold putZ
  split
  · rfl
  · split
    · rename_i h
      obtain ⟨i, rfl, _, hi⟩ := get_place h
      exact wrL_len _ _ _ (by rw [hd8_len]; exact hi)
    · rfl
theorem put_any (R : VR) (f : Int) (hf : InI f) (x : Mk) (p g : Nat) (bs : List UInt8) (w : World) (V : HR) (hV : HV w V) (hR : RV w R) (hA : Ar w p g bs) :
    Calls Tryd.prog 22 #[.pointer (some ⟨p, 0, none⟩), .int .i64 f, .agg (mkA x)] w fun e w' => e = .returned (.int .i64 (putZ bs f x).1) ∧ Ar w' p g (putZ bs f x).2 ∧ PutPost g w w' := by
  rcases mk_split x with hx | ⟨K, L, C, E, rfl, hK, hL, hC, hE⟩
  · rw [putZ_no hx]
    refine (hput_no p f _ _ _ _ (fun W V h => henc_no x hx W V h) w V hV).mono ?_
    rintro e w' ⟨rfl, hb⟩
    exact ⟨rfl, hA.below hb, w', hb, Upd.refl g w'⟩
  · by_cases h : f.tmod 8 = 0 ∧ okB bs.length f 8 1
    · have h0 := h
      obtain ⟨i, rfl, h8, hi⟩ := get_place h
      rw [putZ_ok hK hL hC hE h0]
      exact hput_any hK hL hC hE p g i bs h8 hi w V hV hA
    · rw [putZ_bad hK hL hC hE h]
      refine (hput_err p f _ _ _ _ _ (fun W V h => henc_yes K L C E hK hL hC hE W V h) w V hV fun U hU => ?_).mono ?_
      · by_cases h8 : f.tmod 8 = 0
        · exact hload_bad V R p g bs f U (hV.below hU) (hR.below hU) (hA.below hU) hf h8 (fun hk => h ⟨h8, hk⟩)
        · exact hload_odd V p f U (hV.below hU) h8
      · rintro e w' ⟨rfl, hb⟩
        exact ⟨rfl, hA.below hb, w', hb, Upd.refl g w'⟩
theorem rput_any (f : Int) (hf : InI f) (x : Mk) (p g : Nat) (bs : List UInt8) (w : World) (hA : Rr w p g bs) :
    Calls Tryd.prog 26 #[.pointer (some ⟨p, 0, none⟩), .int .i64 f, .agg (mkA x)] w fun e w' => e = .returned (.int .i64 (putZ bs f x).1) ∧ Rr w' p g (putZ bs f x).2 ∧ PutPost g w w' := by
  rcases mk_split x with hx | ⟨K, L, C, E, rfl, hK, hL, hC, hE⟩
  · rw [putZ_no hx]
    refine (rput_no p f _ _ _ _ (fun W => rEnc_no x hx W) w).mono ?_
    rintro e w' ⟨rfl, hb⟩
    exact ⟨rfl, hA.below hb, w', hb, Upd.refl g w'⟩
  · have hEn := fun W => rEnc_yes K L C E hK hL hC hE W
    by_cases h8 : f.tmod 8 = 0
    · by_cases hk : okB bs.length f 8 1
      · have h0 := And.intro h8 hk
        obtain ⟨i, rfl, h8', hi⟩ := get_place h0
        rw [putZ_ok hK hL hC hE h0]
        exact rput_on p g _ i _ _ _ _ _ _ h8 hEn w (fun W hW => rwrite_ok p g bs i ⟨(hd8 K L C E).toArray⟩ W (hA.below hW) (by rw [show (⟨(hd8 K L C E).toArray⟩ : ByteArray).size = 8 from hd8_len K L C E]; exact hi))
      · rw [putZ_bad hK hL hC hE (fun h => hk h.2)]
        refine rput_on p g bs f _ _ _ _ _ _ h8 hEn w (fun W hW => ?_)
        refine (rwrite_bad p g bs f ⟨(hd8 K L C E).toArray⟩ W (hA.below hW) hf (by rw [show (⟨(hd8 K L C E).toArray⟩ : ByteArray).size = 8 from hd8_len K L C E]; exact hk)).mono ?_
        rintro e w' ⟨rfl, rfl⟩
        exact ⟨rfl, hA.below hW, Upd.refl g _⟩
    · rw [putZ_bad hK hL hC hE (fun h => h8 h.1)]
      refine (rput_odd p f _ _ _ _ _ h8 hEn w).mono ?_
      rintro e w' ⟨rfl, hb⟩
      exact ⟨rfl, hA.below hb, w', hb, Upd.refl g w'⟩
/-- Of what was there all but two blocks is as it was. -/
structure Kpt (g h : Nat) (W W' : World) : Prop where
  os : W'.os = W.os
  tape : W'.tape = W.tape
  output : W'.output = W.output
  size : W.heap.size ≤ W'.heap.size
  block : ∀ k, k < W.heap.size → k ≠ g → k ≠ h → W'.heap[k]? = W.heap[k]?
theorem Kpt.of_below {g h : Nat} {W W' : World} (b : Below W.heap.size W W') : Kpt g h W W' := ⟨b.os, b.tape, b.output, b.size, fun k hk _ _ => b.block k hk⟩
theorem Kpt.of_upd {g h : Nat} {W W' : World} (b : Upd g W W') : Kpt g h W W' := ⟨b.os, b.tape, b.output, b.size, fun k hk hg _ => b.block k hk (fun e => hg (by simpa using e))⟩
theorem Kpt.of_upd2 {g h : Nat} {W W' : World} (b : Upd h W W') : Kpt g h W W' := ⟨b.os, b.tape, b.output, b.size, fun k hk _ hh => b.block k hk (fun e => hh (by simpa using e))⟩
theorem Kpt.trans {g h : Nat} {a b c : World} (x : Kpt g h a b) (y : Kpt g h b c) : Kpt g h a c := ⟨y.os.trans x.os, y.tape.trans x.tape, y.output.trans x.output, Nat.le_trans x.size y.size, fun k hk hg hh => (y.block k (Nat.lt_of_lt_of_le hk x.size) hg hh).trans (x.block k hk hg hh)⟩
theorem Kpt.of_put {g h : Nat} {W W' : World} (b : PutPost g W W') : Kpt g h W W' := by
  obtain ⟨u, h1, h2⟩ := b
  exact (Kpt.of_below h1).trans (Kpt.of_upd h2)
theorem Kpt.of_put2 {g h : Nat} {W W' : World} (b : PutPost h W W') : Kpt g h W W' := by
  obtain ⟨u, h1, h2⟩ := b
  exact (Kpt.of_below h1).trans (Kpt.of_upd2 h2)
theorem Kpt.blk {g h B : Nat} {W W' : World} {cs : Array Value} {t : TypeId} (k : Kpt g h W W') (b : Blk W B cs t) (hg : B ≠ g) (hh : B ≠ h) : Blk W' B cs t := (k.block B b.lt hg hh).trans b
theorem Kpt.below {g h B : Nat} {w W W' : World} (k : Kpt g h W W') (b : Below B w W) (hB : B ≤ W.heap.size) (hg : B ≤ g) (hh : B ≤ h) : Below B w W' :=
  b.trans ⟨k.os, k.tape, k.output, k.size, fun i hi => k.block i (by omega) (by omega) (by omega)⟩
/-- The arena in p with its bytes in g, the reference's in q with its bytes in h; below n nothing has turned since w. -/
structure TwA (n : Nat) (w : World) (p g q h : Nat) (bs cs : List UInt8) (W : World) : Prop where
  hA : Ar W p g bs
  hR : Rr W q h cs
  hb : Below n w W
  ng : n ≤ g
  nh : n ≤ h
  e1 : q ≠ g
  e2 : h ≠ g
  e3 : p ≠ h
  gl : g < W.heap.size
  hl : h < W.heap.size
theorem TwA.below {n : Nat} {w W W' : World} {p g q h : Nat} {bs cs : List UInt8} (t : TwA n w p g q h bs cs W) (hn : n ≤ W.heap.size) (b : Below W.heap.size W W') : TwA n w p g q h bs cs W' :=
  ⟨t.hA.below b, t.hR.below b, t.hb.trans (b.mono hn), t.ng, t.nh, t.e1, t.e2, t.e3, Nat.lt_of_lt_of_le t.gl b.size, Nat.lt_of_lt_of_le t.hl b.size⟩
theorem TwA.one {n : Nat} {w W W' : World} {p g q h : Nat} {bs cs bs' : List UInt8} (t : TwA n w p g q h bs cs W) (hn : n ≤ W.heap.size) (hA : Ar W' p g bs') (u : PutPost g W W') : TwA n w p g q h bs' cs W' :=
  ⟨hA, ⟨t.hR.ne, u.blk t.hR.hp t.e1, u.blk t.hR.hg t.e2, t.hR.len⟩, (Kpt.of_put (h := h) u).below t.hb hn t.ng t.nh, t.ng, t.nh, t.e1, t.e2, t.e3, Nat.lt_of_lt_of_le t.gl (Kpt.of_put (h := h) u).size, Nat.lt_of_lt_of_le t.hl (Kpt.of_put (h := h) u).size⟩
theorem TwA.two {n : Nat} {w W W' : World} {p g q h : Nat} {bs cs cs' : List UInt8} (t : TwA n w p g q h bs cs W) (hn : n ≤ W.heap.size) (hR : Rr W' q h cs') (u : PutPost h W W') : TwA n w p g q h bs cs' W' :=
  ⟨⟨t.hA.ne, u.blk t.hA.hp t.e3, u.blk t.hA.hg t.e2.symm, t.hA.len⟩, hR, (Kpt.of_put2 (g := g) u).below t.hb hn t.ng t.nh, t.ng, t.nh, t.e1, t.e2, t.e3, Nat.lt_of_lt_of_le t.gl (Kpt.of_put2 (g := g) u).size, Nat.lt_of_lt_of_le t.hl (Kpt.of_put2 (g := g) u).size⟩
theorem TwA.drew {n : Nat} {w W : World} {p g q h : Nat} {bs cs : List UInt8} (t : TwA n w p g q h bs cs W) : TwA n w p g q h bs cs W.drew := ⟨t.hA.drew, t.hR.drew, t.hb.drew, t.ng, t.nh, t.e1, t.e2, t.e3, t.gl, t.hl⟩
theorem Kpt.drew {g h : Nat} {W W' : World} (k : Kpt g h W W') : Kpt g h W W'.drew := ⟨k.os, k.tape, k.output, k.size, k.block⟩
theorem PutPost.of_upd {g : Nat} {W W' : World} (u : Upd g W W') : PutPost g W W' := ⟨W, Below.refl _ _, u⟩
/-- What Write answers, and what it leaves. -/
def writeZ (bs : List UInt8) (f : Int) (s : ByteArray) : Int × List UInt8 := if okB bs.length f s.size 1 then (0, wrL bs f.toNat s.data.toList) else (10, bs)
theorem writeZ_len (bs : List UInt8) (f : Int) (s : ByteArray) : (writeZ bs f s).2.length = bs.length := by
  unfold writeZ
  split
  · rename_i h
    obtain ⟨h1, _, h2, _⟩ := h
    refine wrL_len _ _ _ ?_
    rw [show s.data.toList.length = s.size from rfl]
    omega
  · rfl
theorem write_any (R : VR) (f : Int) (hf : InI f) (s : ByteArray) (p g : Nat) (bs : List UInt8) (w : World) (hR : RV w R) (hA : Ar w p g bs) :
    Calls Tryd.prog 23 #[.pointer (some ⟨p, 0, none⟩), .int .i64 f, .string s] w fun e w' => e = .returned (.int .i64 (writeZ bs f s).1) ∧ Ar w' p g (writeZ bs f s).2 ∧ PutPost g w w' := by
  by_cases h : okB bs.length f s.size 1
  · rw [show writeZ bs f s = (0, wrL bs f.toNat s.data.toList) from if_pos h]
    obtain ⟨h1, _, h2, _⟩ := h
    obtain ⟨i, rfl⟩ : ∃ i : Nat, f = i := ⟨f.toNat, by omega⟩
    refine (write_ok p g bs i s w hA (by omega)).mono ?_
    rintro e w' ⟨rfl, h3, h4⟩
    exact ⟨rfl, h3, PutPost.of_upd h4⟩
  · rw [show writeZ bs f s = (10, bs) from if_neg h]
    refine (write_bad R p g bs f s w hR hA hf h).mono ?_
    rintro e w' ⟨rfl, hb⟩
    exact ⟨rfl, hA.below hb, w', hb, Upd.refl g w'⟩
theorem rwrite_any (f : Int) (hf : InI f) (s : ByteArray) (p g : Nat) (bs : List UInt8) (w : World) (hA : Rr w p g bs) :
    Calls Tryd.prog 24 #[.pointer (some ⟨p, 0, none⟩), .int .i64 f, .string s] w fun e w' => e = .returned (.int .i64 (writeZ bs f s).1) ∧ Rr w' p g (writeZ bs f s).2 ∧ PutPost g w w' := by
  by_cases h : okB bs.length f s.size 1
  · rw [show writeZ bs f s = (0, wrL bs f.toNat s.data.toList) from if_pos h]
    obtain ⟨h1, _, h2, _⟩ := h
    obtain ⟨i, rfl⟩ : ∃ i : Nat, f = i := ⟨f.toNat, by omega⟩
    refine (rwrite_ok p g bs i s w hA (by omega)).mono ?_
    rintro e w' ⟨rfl, h3, h4⟩
    exact ⟨rfl, h3, PutPost.of_upd h4⟩
  · rw [show writeZ bs f s = (10, bs) from if_neg h]
    refine (rwrite_bad p g bs f s w hA hf h).mono ?_
    rintro e w' ⟨rfl, rfl⟩
    exact ⟨rfl, hA, PutPost.of_upd (Upd.refl g _)⟩
theorem hget_nil (f : Int) (w : World) (V : HR) (hV : HV w V) : Calls Tryd.prog 21 #[.pointer none, .int .i64 f] w fun e w' => e = .returned (.tuple #[.agg mk0, .int .i64 1]) ∧ Below w.heap.size w w' := by
  obtain ⟨b0, hB0, hs0⟩ := blk1 w mk0 23
  have cN := hV.cN.1
  have HN := Lib.hid (hnum_nil V _ (hV.below hB0))
  have KA := Lib.hid b0
  have HB := Lib.hid hB0
  have hgl : 2 < w.heap.size := World.block_lt_of_cell? w _ cN
  clear hV b0 hB0 hs0
  go_enter Tryd.func21, Tryd.ntmps21
  go_wp2_with fail
  ((with_reducible refine HN.out.mono ?_))
  rintro e w' ⟨rfl, rfl⟩
  have m0 := KA.out.cell (k := 0) (v := .int .i64 0) rfl
  have e0 := KA.out.frozen 0
  have m1 := KA.out.cell (k := 1) (v := .int .i64 0) rfl
  have e1 := KA.out.frozen 1
  have m2 := KA.out.cell (k := 2) (v := .int .i64 0) rfl
  have e2 := KA.out.frozen 2
  have m3 := KA.out.cell (k := 3) (v := .int .i64 0) rfl
  have e3 := KA.out.frozen 3
  have ln := KA.out.lt
  go_wp2
  refine bodyPost_ret (v := .tuple #[.agg mk0, .int .i64 1]) (by simp [results, Tryd.results21, go_sem, m0, m1, m2, m3, e0, e1, e2, e3, ln]) rfl ⟨rfl, ?_⟩
  repeat (first | exact HB.out | refine bel_al' ?_ _ | refine bel_set' ?_ (Nat.le_refl _) | refine bel_dr' ?_)
set_option maxRecDepth 100000 in
set_option maxHeartbeats 2000000 in
theorem puts_bad (a0 a1 a2 a3 n f t : Int) (s : ByteArray) (hn : n < 1 ∨ 32 < n) (w : World) (V : HR) (hV : HV w V) (hN : ∀ (W : World), Below w.heap.size w W → Calls Tryd.prog 19 #[.int .i64 n] W fun e w' => e = .returned (.tuple #[.pointer none, .int .i64 2]) ∧ Below W.heap.size W w') : Calls Tryd.prog 7 #[.int .i64 n, .int .i64 f, .int .i64 t, .agg #[.int .i64 a0, .int .i64 a1, .int .i64 a2, .int .i64 a3], .string s] w fun e w' => e = .returned (.bool true) ∧ Below w.heap.size w w' := by
  have HVV := Lib.hid hV
  have HN := Lib.hid hN
  have HQ := Lib.hid (fun W => rnew_bad n W hn)
  have HB := Lib.hid (Below.refl w.heap.size w)
  clear hV hN hn
  go_enter Tryd.func7, Tryd.ntmps7
  have HB := Lib.hid (bel_al HB.out (.cells #[.int .i64 a0, .int .i64 a1, .int .i64 a2, .int .i64 a3] 23))
  have KA := Lib.hid (Blk.new w #[.int .i64 a0, .int .i64 a1, .int .i64 a2, .int .i64 a3] 23)
  go_wp2_with fail
  generalize w.alloc (.cells #[.int .i64 a0, .int .i64 a1, .int .i64 a2, .int .i64 a3] 23) = v1 at HB KA ⊢
  ((with_reducible refine (shown06 v1 V (HVV.out.below HB.out)).mono ?_))
  rintro e u2 ⟨rfl, hb⟩
  have HB := Lib.hid (bstep HB.out hb)
  have KA := Lib.hid (KA.out.below' hb)
  clear hb
  go_wp2_with fail
  ((with_reducible refine (HN.out u2 HB.out).mono ?_))
  rintro e u3 ⟨rfl, hb⟩
  have HB := Lib.hid (bstep HB.out hb)
  have KA := Lib.hid (KA.out.below' hb)
  clear hb
  go_wp2_with fail
  ((with_reducible refine (HQ.out u3).mono ?_))
  rintro e w' ⟨rfl, rfl⟩
  go_wp2_with fail
  ((with_reducible refine (hget_nil f u3 V (HVV.out.below HB.out)).mono ?_))
  rintro e u4 ⟨rfl, hb⟩
  have HB := Lib.hid (bstep HB.out hb)
  have KA := Lib.hid (KA.out.below' hb)
  clear hb
  have ltKA := KA.out.lt
  have cKA0 : u4.cell? ⟨w.heap.size, 0, none⟩ = some (.int .i64 a0) := KA.out.cell rfl
  have cKA1 : u4.cell? ⟨w.heap.size, 1, none⟩ = some (.int .i64 a1) := KA.out.cell rfl
  have cKA2 : u4.cell? ⟨w.heap.size, 2, none⟩ = some (.int .i64 a2) := KA.out.cell rfl
  have cKA3 : u4.cell? ⟨w.heap.size, 3, none⟩ = some (.int .i64 a3) := KA.out.cell rfl
  have HB := Lib.hid (bel_al HB.out (.cells #[.int .i64 0, .int .i64 0, .int .i64 0, .int .i64 0] 23))
  have KA := Lib.hid (KA.out.alloc (.cells #[.int .i64 0, .int .i64 0, .int .i64 0, .int .i64 0] 23))
  have KO := Lib.hid (Blk.new u4 #[.int .i64 0, .int .i64 0, .int .i64 0, .int .i64 0] 23)
  go_wp2_with fail
  generalize u4.alloc (.cells #[.int .i64 0, .int .i64 0, .int .i64 0, .int .i64 0] 23) = v5 at HB KA KO ⊢
  clear ltKA cKA0 cKA1 cKA2 cKA3
  ((with_reducible refine (hput_nil f a0 a1 a2 a3 v5 V (HVV.out.below HB.out)).mono ?_))
  rintro e u6 ⟨rfl, hb⟩
  have HB := Lib.hid (bstep HB.out hb)
  have KA := Lib.hid (KA.out.below' hb)
  have KO := Lib.hid (KO.out.below' hb)
  clear hb
  go_wp2
  go_ret
  exact ⟨rfl, HB.out⟩
set_option maxRecDepth 100000 in
set_option maxHeartbeats 4000000 in
theorem puts_good (a0 a1 a2 a3 c0 c1 c2 c3 D E F f t : Int) (n N : Nat) (s X Y : ByteArray) (bz b1 b2 : List UInt8) (w : World) (V : HR) (hV : HV w V) (hN : ∀ (W : World), Below w.heap.size w W → Calls Tryd.prog 19 #[.int .i64 (n : Int)] W fun e w' => ∃ p g, e = .returned (.tuple #[.pointer (some ⟨p, 0, none⟩), .int .i64 0]) ∧ Ar w' p g bz ∧ Below W.heap.size W w' ∧ W.heap.size ≤ g ∧ W.heap.size ≤ p) (hM : ∀ (W : World), Calls Tryd.prog 20 #[.int .i64 (n : Int)] W fun e w' => ∃ p g, e = .returned (.tuple #[.pointer (some ⟨p, 0, none⟩), .int .i64 0]) ∧ Rr w' p g bz ∧ Below W.heap.size W w' ∧ W.heap.size ≤ g ∧ W.heap.size ≤ p) (hC : ∀ (W : World), Calls Tryd.prog 13 #[.string s] W fun e w' => e = .returned (.string X) ∧ W = w') (hW : ∀ (p g q h : Nat) (W : World), TwA w.heap.size w p g q h bz bz W → Calls Tryd.prog 23 #[.pointer (some ⟨p, 0, none⟩), .int .i64 t, .string X] W fun e w' => e = .returned (.int .i64 E) ∧ TwA w.heap.size w p g q h b1 bz w' ∧ Kpt g h W w') (hX : ∀ (p g q h : Nat) (W : World), TwA w.heap.size w p g q h b1 bz W → Calls Tryd.prog 24 #[.pointer (some ⟨q, 0, none⟩), .int .i64 t, .string X] W fun e w' => e = .returned (.int .i64 E) ∧ TwA w.heap.size w p g q h b1 b1 w' ∧ Kpt g h W w') (hG : ∀ (p g q h : Nat) (W : World), TwA w.heap.size w p g q h b1 b1 W → Calls Tryd.prog 21 #[.pointer (some ⟨p, 0, none⟩), .int .i64 f] W fun e w' => e = .returned (.tuple #[.agg #[.int .i64 c0, .int .i64 c1, .int .i64 c2, .int .i64 c3], .int .i64 D]) ∧ TwA w.heap.size w p g q h b1 b1 w' ∧ Kpt g h W w') (hI : ∀ (p g q h : Nat) (W : World), TwA w.heap.size w p g q h b1 b1 W → Calls Tryd.prog 25 #[.pointer (some ⟨q, 0, none⟩), .int .i64 f] W fun e w' => e = .returned (.tuple #[.agg #[.int .i64 c0, .int .i64 c1, .int .i64 c2, .int .i64 c3], .int .i64 D]) ∧ TwA w.heap.size w p g q h b1 b1 w' ∧ Kpt g h W w') (hP : ∀ (p g q h : Nat) (W : World), TwA w.heap.size w p g q h b1 b1 W → Calls Tryd.prog 22 #[.pointer (some ⟨p, 0, none⟩), .int .i64 f, .agg #[.int .i64 a0, .int .i64 a1, .int .i64 a2, .int .i64 a3]] W fun e w' => e = .returned (.int .i64 F) ∧ TwA w.heap.size w p g q h b2 b1 w' ∧ Kpt g h W w') (hJ : ∀ (p g q h : Nat) (W : World), TwA w.heap.size w p g q h b2 b1 W → Calls Tryd.prog 26 #[.pointer (some ⟨q, 0, none⟩), .int .i64 f, .agg #[.int .i64 a0, .int .i64 a1, .int .i64 a2, .int .i64 a3]] W fun e w' => e = .returned (.int .i64 F) ∧ TwA w.heap.size w p g q h b2 b2 w' ∧ Kpt g h W w') (hS : ∀ (p g q h : Nat) (W : World), TwA w.heap.size w p g q h b2 b2 W → Calls Tryd.prog 28 #[.pointer (some ⟨p, 0, none⟩)] W fun e w' => e = .returned (.int .i64 (N : Int)) ∧ TwA w.heap.size w p g q h b2 b2 w' ∧ Kpt g h W w') (hR : ∀ (p g q h : Nat) (W : World), TwA w.heap.size w p g q h b2 b2 W → Calls Tryd.prog 27 #[.pointer (some ⟨p, 0, none⟩), .int .i64 0, .int .i64 (N : Int)] W fun e w' => e = .returned (.tuple #[.string Y, .int .i64 0]) ∧ TwA w.heap.size w p g q h b2 b2 w' ∧ Kpt g h W w') (hY : ∀ (q h : Nat) (W : World), Rr W q h b2 → (convert 34 9 (.slice (some ⟨h, 0, none⟩) N N)).run Tryd.prog W = .ok (.string Y) W ∧ W.cell? ⟨q, 0, none⟩ = some (.slice (some ⟨h, 0, none⟩) N N)) : Calls Tryd.prog 7 #[.int .i64 (n : Int), .int .i64 f, .int .i64 t, .agg #[.int .i64 a0, .int .i64 a1, .int .i64 a2, .int .i64 a3], .string s] w fun e w' => e = .returned (.bool true) ∧ Below w.heap.size w w' := by
  have HVV := Lib.hid hV
  have HN := Lib.hid hN
  have HM := Lib.hid hM
  have HC := Lib.hid hC
  have HW := Lib.hid hW
  have HX := Lib.hid hX
  have HG := Lib.hid hG
  have HI := Lib.hid hI
  have HP := Lib.hid hP
  have HJ := Lib.hid hJ
  have HS := Lib.hid hS
  have HR := Lib.hid hR
  have HY := Lib.hid hY
  have HB := Lib.hid (Below.refl w.heap.size w)
  clear hV hN hM hC hW hX hG hI hP hJ hS hR hY
  go_enter Tryd.func7, Tryd.ntmps7
  have HB := Lib.hid (bel_al HB.out (.cells #[.int .i64 a0, .int .i64 a1, .int .i64 a2, .int .i64 a3] 23))
  have KA := Lib.hid (Blk.new w #[.int .i64 a0, .int .i64 a1, .int .i64 a2, .int .i64 a3] 23)
  go_wp2_with fail
  generalize w.alloc (.cells #[.int .i64 a0, .int .i64 a1, .int .i64 a2, .int .i64 a3] 23) = v1 at HB KA ⊢
  ((with_reducible refine (shown06 v1 V (HVV.out.below HB.out)).mono ?_))
  rintro e u2 ⟨rfl, hb⟩
  have HB := Lib.hid (bstep HB.out hb)
  have KA := Lib.hid (KA.out.below' hb)
  clear hb
  go_wp2_with fail
  ((with_reducible refine (HN.out u2 HB.out).mono ?_))
  rintro e x1 ⟨p, g, rfl, hA, hb, hg, hp⟩
  have nw := HB.out.size
  have hKA := KA.out.lt
  have HB := Lib.hid (bstep HB.out hb)
  have KA := Lib.hid (KA.out.below' hb)
  have hAg := hA.hg.lt
  have hAp := hA.hp.lt
  have HA := Lib.hid hA
  have nb := hb.size
  clear hb hA
  go_wp2_with fail
  ((with_reducible refine (HM.out x1).mono ?_))
  rintro e x2 ⟨q, h, rfl, hR, hb, hh, hq⟩
  have HT0 : Hid (TwA w.heap.size w p g q h bz bz x2) := Lib.hid ⟨HA.out.below hb, hR, bstep HB.out hb, by omega, by omega, by omega, by omega, by omega, Nat.lt_of_lt_of_le hAg hb.size, hR.hg.lt⟩
  have KA := Lib.hid (KA.out.below' hb)
  have nAg : w.heap.size ≠ g := by omega
  have nAh : w.heap.size ≠ h := by omega
  clear hb hR HA HB nb hAg hAp hg hp hh hq nw hKA
  go_wp2_with fail
  ((with_reducible refine (HC.out _).mono ?_))
  rintro e w' ⟨rfl, rfl⟩
  go_wp2_with fail
  ((with_reducible refine (HW.out p g q h x2 HT0.out).mono ?_))
  rintro e x3 ⟨rfl, hT, hK⟩
  have KA := Lib.hid (hK.blk KA.out nAg nAh)
  have HT1 := Lib.hid hT
  clear hT hK
  go_wp2_with fail
  ((with_reducible refine (HC.out _).mono ?_))
  rintro e w' ⟨rfl, rfl⟩
  go_wp2_with fail
  ((with_reducible refine (HX.out p g q h x3 HT1.out).mono ?_))
  rintro e x4 ⟨rfl, hT, hK⟩
  have KA := Lib.hid (hK.blk KA.out nAg nAh)
  have HT := Lib.hid hT
  clear hT hK
  clear HT0 HT1 HN HM HC HW HX
  have nKAg := nAg
  have nKAh := nAh
  go_wp2_with fail
  ((with_reducible refine (HG.out p g q h x4 HT.out).mono ?_))
  rintro e x5 ⟨rfl, hT, hK⟩
  have KA := Lib.hid (hK.blk KA.out nKAg nKAh)
  have HT := Lib.hid hT
  clear hT hK
  have hszw : w.heap.size ≤ w.heap.size := Nat.le_refl _
  have ngl := HT.out.gl
  have nhl := HT.out.hl
  have hnb := (Below.refl _ x5).alloc (Nat.le_refl _) (.cells #[.int .i64 c0, .int .i64 c1, .int .i64 c2, .int .i64 c3] 23)
  have HTn := Lib.hid (HT.out.below (Nat.le_trans hszw HT.out.hb.size) hnb)
  have KA := Lib.hid (KA.out.alloc (.cells #[.int .i64 c0, .int .i64 c1, .int .i64 c2, .int .i64 c3] 23))
  have KC := Lib.hid (Blk.new x5 #[.int .i64 c0, .int .i64 c1, .int .i64 c2, .int .i64 c3] 23)
  have nKCg : x5.heap.size ≠ g := by omega
  have nKCh : x5.heap.size ≠ h := by omega
  clear hnb ngl nhl
  go_wp2_with fail
  generalize x5.alloc (.cells #[.int .i64 c0, .int .i64 c1, .int .i64 c2, .int .i64 c3] 23) = y5 at HTn KA KC ⊢
  have HT := HTn
  clear HTn
  ((with_reducible refine (HI.out p g q h y5 HT.out).mono ?_))
  rintro e x6 ⟨rfl, hT, hK⟩
  have KA := Lib.hid (hK.blk KA.out nKAg nKAh)
  have KC := Lib.hid (hK.blk KC.out nKCg nKCh)
  have HT := Lib.hid hT
  clear hT hK
  have ngl := HT.out.gl
  have nhl := HT.out.hl
  have hnb := (Below.refl _ x6).alloc (Nat.le_refl _) (.cells #[.int .i64 c0, .int .i64 c1, .int .i64 c2, .int .i64 c3] 23)
  have HTn := Lib.hid (HT.out.below (Nat.le_trans hszw HT.out.hb.size) hnb)
  have KA := Lib.hid (KA.out.alloc (.cells #[.int .i64 c0, .int .i64 c1, .int .i64 c2, .int .i64 c3] 23))
  have KC := Lib.hid (KC.out.alloc (.cells #[.int .i64 c0, .int .i64 c1, .int .i64 c2, .int .i64 c3] 23))
  have KD := Lib.hid (Blk.new x6 #[.int .i64 c0, .int .i64 c1, .int .i64 c2, .int .i64 c3] 23)
  have nKDg : x6.heap.size ≠ g := by omega
  have nKDh : x6.heap.size ≠ h := by omega
  clear hnb ngl nhl
  have ltKA := KA.out.lt
  have cKA0 : (x6.alloc (.cells #[.int .i64 c0, .int .i64 c1, .int .i64 c2, .int .i64 c3] 23)).cell? ⟨w.heap.size, 0, none⟩ = some (.int .i64 a0) := KA.out.cell rfl
  have cKA1 : (x6.alloc (.cells #[.int .i64 c0, .int .i64 c1, .int .i64 c2, .int .i64 c3] 23)).cell? ⟨w.heap.size, 1, none⟩ = some (.int .i64 a1) := KA.out.cell rfl
  have cKA2 : (x6.alloc (.cells #[.int .i64 c0, .int .i64 c1, .int .i64 c2, .int .i64 c3] 23)).cell? ⟨w.heap.size, 2, none⟩ = some (.int .i64 a2) := KA.out.cell rfl
  have cKA3 : (x6.alloc (.cells #[.int .i64 c0, .int .i64 c1, .int .i64 c2, .int .i64 c3] 23)).cell? ⟨w.heap.size, 3, none⟩ = some (.int .i64 a3) := KA.out.cell rfl
  go_wp2_with fail
  clear ltKA cKA0 cKA1 cKA2 cKA3
  generalize x6.alloc (.cells #[.int .i64 c0, .int .i64 c1, .int .i64 c2, .int .i64 c3] 23) = y6 at HTn KA KC KD ⊢
  have HT := HTn
  clear HTn
  ((with_reducible refine (HP.out p g q h y6 HT.out).mono ?_))
  rintro e x7 ⟨rfl, hT, hK⟩
  have KA := Lib.hid (hK.blk KA.out nKAg nKAh)
  have KC := Lib.hid (hK.blk KC.out nKCg nKCh)
  have KD := Lib.hid (hK.blk KD.out nKDg nKDh)
  have HT := Lib.hid hT
  clear hT hK
  have ltKA := KA.out.lt
  have cKA0 : x7.cell? ⟨w.heap.size, 0, none⟩ = some (.int .i64 a0) := KA.out.cell rfl
  have cKA1 : x7.cell? ⟨w.heap.size, 1, none⟩ = some (.int .i64 a1) := KA.out.cell rfl
  have cKA2 : x7.cell? ⟨w.heap.size, 2, none⟩ = some (.int .i64 a2) := KA.out.cell rfl
  have cKA3 : x7.cell? ⟨w.heap.size, 3, none⟩ = some (.int .i64 a3) := KA.out.cell rfl
  go_wp2_with fail
  clear ltKA cKA0 cKA1 cKA2 cKA3
  ((with_reducible refine (HJ.out p g q h x7 HT.out).mono ?_))
  rintro e x8 ⟨rfl, hT, hK⟩
  have KA := Lib.hid (hK.blk KA.out nKAg nKAh)
  have KC := Lib.hid (hK.blk KC.out nKCg nKCh)
  have KD := Lib.hid (hK.blk KD.out nKDg nKDh)
  have HT := Lib.hid hT
  clear hT hK
  go_wp2_with fail
  ((with_reducible refine (HS.out p g q h x8 HT.out).mono ?_))
  rintro e x9 ⟨rfl, hT, hK⟩
  have KA := Lib.hid (hK.blk KA.out nKAg nKAh)
  have KC := Lib.hid (hK.blk KC.out nKCg nKCh)
  have KD := Lib.hid (hK.blk KD.out nKDg nKDh)
  have HT := Lib.hid hT
  clear hT hK
  go_wp2_with fail
  ((with_reducible refine (HR.out p g q h x9 HT.out).mono ?_))
  rintro e x10 ⟨rfl, hT, hK⟩
  have KA := Lib.hid (hK.blk KA.out nKAg nKAh)
  have KC := Lib.hid (hK.blk KC.out nKCg nKCh)
  have KD := Lib.hid (hK.blk KD.out nKDg nKDh)
  have HT := Lib.hid hT
  clear hT hK
  obtain ⟨hcv, hcq⟩ := HY.out q h x10 HT.out.hR
  have cC0 : x10.cell? ⟨x5.heap.size, 0, none⟩ = some (.int .i64 c0) := KC.out.cell rfl
  have cC1 : x10.cell? ⟨x5.heap.size, 1, none⟩ = some (.int .i64 c1) := KC.out.cell rfl
  have cC2 : x10.cell? ⟨x5.heap.size, 2, none⟩ = some (.int .i64 c2) := KC.out.cell rfl
  have cC3 : x10.cell? ⟨x5.heap.size, 3, none⟩ = some (.int .i64 c3) := KC.out.cell rfl
  have cD0 : x10.cell? ⟨x6.heap.size, 0, none⟩ = some (.int .i64 c0) := KD.out.cell rfl
  have cD1 : x10.cell? ⟨x6.heap.size, 1, none⟩ = some (.int .i64 c1) := KD.out.cell rfl
  have cD2 : x10.cell? ⟨x6.heap.size, 2, none⟩ = some (.int .i64 c2) := KD.out.cell rfl
  have cD3 : x10.cell? ⟨x6.heap.size, 3, none⟩ = some (.int .i64 c3) := KD.out.cell rfl
  have lt1 := KC.out.lt
  have lt2 := KD.out.lt
  go_wp2
  go_ret
  exact ⟨rfl, HT.out.hb⟩
theorem hread_all (p g : Nat) (bs : List UInt8) (N : Nat) (hN : bs.length = N) (W : World) (hA : Ar W p g bs) :
    Calls Tryd.prog 27 #[.pointer (some ⟨p, 0, none⟩), .int .i64 0, .int .i64 (N : Int)] W fun e w' => e = .returned (.tuple #[.string ⟨bs.toArray⟩, .int .i64 0]) ∧ Below W.heap.size W w' := by
  have h5 := read_ok p g bs 0 bs.length W hA (by omega)
  rw [List.drop_zero, List.take_length, hN] at h5
  exact h5
theorem rall_text (p g : Nat) (bs : List UInt8) (N : Nat) (hN : bs.length = N) (W : World) (hA : Rr W p g bs) : (convert 34 9 (.slice (some ⟨g, 0, none⟩) N N)).run Tryd.prog W = .ok (.string ⟨bs.toArray⟩) W := by
  have h := run_text hA 0 bs.length (by omega)
  rw [List.drop_zero, List.take_length, hN] at h
  simpa [cutv] using h
theorem mar_any (o : Option Mk) : ∃ m : Mk, marO o = mkA m := by
  cases o with
  | none => exact ⟨⟨0, 0, 0, 0⟩, rfl⟩
  | some m => exact ⟨m, rfl⟩
theorem lawHeadPuts (n f t : Int) (x : Mk) (s : ByteArray) (w : World) (V : HR) (R : VR) (hV : HV w V) (hR : RV w R) (hn : InI n) (hf : InI f) (ht : InI t) : Calls Tryd.prog 7 #[.int .i64 n, .int .i64 f, .int .i64 t, .agg (mkA x), .string s] w fun e w' => e = .returned (.bool true) ∧ Below w.heap.size w w' := by
  by_cases hb : n < 1 ∨ 32 < n
  · refine puts_bad _ _ _ _ n f t s hb w V hV fun W hW => ?_
    refine new_bad R n _ W (hR.below hW) rfl ?_
    unfold InI at hn
    by_cases h1 : n = -9223372036854775808
    · subst h1; right; decide
    · rw [IntWalk.i64_in (n - 1) (by omega)]; omega
  · obtain ⟨b, rfl⟩ : ∃ b : Nat, n = b := ⟨n.toNat, by omega⟩
    have h1 : 1 ≤ b := by omega
    have h2 : b ≤ 32 := by omega
    obtain ⟨X, hC⟩ := cut_text s
    obtain ⟨bz, hbz⟩ : ∃ l, l = zer (4096 * b) := ⟨_, rfl⟩
    obtain ⟨b1, hb1⟩ : ∃ l, l = (writeZ bz t X).2 := ⟨_, rfl⟩
    obtain ⟨b2, hb2⟩ : ∃ l, l = (putZ b1 f x).2 := ⟨_, rfl⟩
    have hl : b2.length = 4096 * b := by rw [hb2, putZ_len, hb1, writeZ_len, hbz, zer_len]
    obtain ⟨m, hm⟩ := mar_any (getM b1 f)
    refine puts_good _ _ _ _ m.k m.l m.c m.e (getE b1 f) (writeZ bz t X).1 (putZ b1 f x).1 f t b (4096 * b) s X ⟨b2.toArray⟩ bz b1 b2 w V hV (fun W hW => ?_) (fun W => ?_) hC (fun p g q h W hT => ?_) (fun p g q h W hT => ?_) (fun p g q h W hT => ?_) (fun p g q h W hT => ?_) (fun p g q h W hT => ?_) (fun p g q h W hT => ?_) (fun p g q h W hT => ?_) (fun p g q h W hT => ?_) (fun q h W hR => ⟨rall_text q h b2 _ hl W hR, ?_⟩)
    · rw [hbz]; exact new_ok R b W (hR.below hW) h1 h2
    · rw [hbz]; exact rnew_ok b W h1 h2
    · refine (write_any R t ht X p g bz W (hR.below hT.hb) hT.hA).mono ?_
      rintro e w' ⟨rfl, hA, hu⟩
      rw [← hb1] at hA
      exact ⟨rfl, hT.one hT.hb.size hA hu, Kpt.of_put hu⟩
    · refine (rwrite_any t ht X q h bz W hT.hR).mono ?_
      rintro e w' ⟨rfl, hA, hu⟩
      rw [← hb1] at hA
      exact ⟨rfl, hT.two hT.hb.size hA hu, Kpt.of_put2 hu⟩
    · have h := hget_any R f hf p g b1 W V (hV.below hT.hb) (hR.below hT.hb) hT.hA
      rw [hm] at h
      refine h.mono ?_
      rintro e w' ⟨rfl, hk⟩
      exact ⟨rfl, hT.below hT.hb.size hk, Kpt.of_below hk⟩
    · have h := rget_any f hf q h b1 W hT.hR
      rw [hm] at h
      refine h.mono ?_
      rintro e w' ⟨rfl, hk⟩
      exact ⟨rfl, hT.below hT.hb.size hk, Kpt.of_below hk⟩
    · refine (put_any R f hf x p g b1 W V (hV.below hT.hb) (hR.below hT.hb) hT.hA).mono ?_
      rintro e w' ⟨rfl, hA, hu⟩
      rw [← hb2] at hA
      exact ⟨rfl, hT.one hT.hb.size hA hu, Kpt.of_put hu⟩
    · refine (rput_any f hf x q h b1 W hT.hR).mono ?_
      rintro e w' ⟨rfl, hA, hu⟩
      rw [← hb2] at hA
      exact ⟨rfl, hT.two hT.hb.size hA hu, Kpt.of_put2 hu⟩
    · have h := size_ok p g b2 W hT.hA
      rw [hl] at h
      refine h.mono ?_
      rintro e w' ⟨rfl, rfl⟩
      exact ⟨rfl, hT, Kpt.of_below (Below.refl _ _)⟩
    · refine (hread_all p g b2 _ hl W hT.hA).mono ?_
      rintro e w' ⟨rfl, hk⟩
      exact ⟨rfl, hT.below hT.hb.size hk, Kpt.of_below hk⟩
    · have h := hR.hp.cell (k := 0) rfl
      rw [hl] at h
      exact h
end Go.Proofs.YtmikkbhillkpkaaDoor
