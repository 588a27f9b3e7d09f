/-
  head.Put.
-/
import Derived.Test.YtmikkbhillkpkaaDoorHbA
import Derived.Test.YtmikkbhillkpkaaDoorHdU
namespace Go.Proofs.YtmikkbhillkpkaaDoor
open Go.RowKit Go.Lib Go.Shelf
attribute [local go_sem] Oper.semAt_some
set_option linter.unusedSimpArgs false
set_option linter.unusedVariables false

set_option maxRecDepth 100000 in
set_option maxHeartbeats 1000000 in
theorem hput_no (p : Nat) (f : Int) (a0 a1 a2 a3 : Int) (hE : ∀ (W : World) (V : HR), HV W V → Calls Tryd.prog 10 #[.agg #[.int .i64 a0, .int .i64 a1, .int .i64 a2, .int .i64 a3]] W fun e w' => e = .returned (.tuple #[.string ⟨#[]⟩, .int .i64 60]) ∧ Below W.heap.size W w') (w : World) (V : HR) (hV : HV w V) : Calls Tryd.prog 22 #[.pointer (some ⟨p, 0, none⟩), .int .i64 f, .agg #[.int .i64 a0, .int .i64 a1, .int .i64 a2, .int .i64 a3]] w fun e w' => e = .returned (.int .i64 60) ∧ Below w.heap.size w w' := by
  have HVV := Lib.hid hV
  have HE := Lib.hid hE
  have HB := Lib.hid (Below.refl w.heap.size w)
  clear hV hE
  go_enter Tryd.func22, Tryd.ntmps22
  have HB := Lib.hid (bel_al HB.out (.cells #[.int .i64 a0, .int .i64 a1, .int .i64 a2, .int .i64 a3] 23))
  have KA := Lib.hid (Blk.new w #[.int .i64 a0, .int .i64 a1, .int .i64 a2, .int .i64 a3] 23)
  go_wp2_with fail
  generalize w.alloc (.cells #[.int .i64 a0, .int .i64 a1, .int .i64 a2, .int .i64 a3] 23) = v1 at HB KA ⊢
  ((with_reducible refine (HE.out v1 V (HVV.out.below HB.out)).mono ?_))
  rintro e u2 ⟨rfl, hb⟩
  have HB := Lib.hid (bstep HB.out hb)
  have KA := Lib.hid (KA.out.below' hb)
  clear hb
  go_wp2
  go_ret
  exact ⟨rfl, HB.out⟩
set_option maxRecDepth 100000 in
set_option maxHeartbeats 1000000 in
theorem hput_err (p : Nat) (f : Int) (a0 a1 a2 a3 : Int) (S : ByteArray) (hE : ∀ (W : World) (V : HR), HV W V → Calls Tryd.prog 10 #[.agg #[.int .i64 a0, .int .i64 a1, .int .i64 a2, .int .i64 a3]] W fun e w' => e = .returned (.tuple #[.string S, .int .i64 0]) ∧ Below W.heap.size W w') (w : World) (V : HR) (hV : HV w V) (hL : ∀ W, Below w.heap.size w W → Calls Tryd.prog 38 #[.pointer (some ⟨p, 0, none⟩), .int .i64 f] W fun e w' => e = .returned (.tuple #[.string ⟨#[]⟩, .iface 118 (.pointer (some V.hA))]) ∧ Below W.heap.size W w') : Calls Tryd.prog 22 #[.pointer (some ⟨p, 0, none⟩), .int .i64 f, .agg #[.int .i64 a0, .int .i64 a1, .int .i64 a2, .int .i64 a3]] w fun e w' => e = .returned (.int .i64 10) ∧ Below w.heap.size w w' := by
  have HVV := Lib.hid hV
  have HE := Lib.hid hE
  have HL := Lib.hid hL
  have HN := Lib.hid (fun W hW => hnum_addr V W hW)
  have HB := Lib.hid (Below.refl w.heap.size w)
  clear hV hE hL
  go_enter Tryd.func22, Tryd.ntmps22
  have HB := Lib.hid (bel_al HB.out (.cells #[.int .i64 a0, .int .i64 a1, .int .i64 a2, .int .i64 a3] 23))
  have KA := Lib.hid (Blk.new w #[.int .i64 a0, .int .i64 a1, .int .i64 a2, .int .i64 a3] 23)
  go_wp2_with fail
  generalize w.alloc (.cells #[.int .i64 a0, .int .i64 a1, .int .i64 a2, .int .i64 a3] 23) = v1 at HB KA ⊢
  ((with_reducible refine (HE.out v1 V (HVV.out.below HB.out)).mono ?_))
  rintro e u2 ⟨rfl, hb⟩
  have HB := Lib.hid (bstep HB.out hb)
  have KA := Lib.hid (KA.out.below' hb)
  clear hb
  go_wp2_with fail
  ((with_reducible refine (HL.out u2 HB.out).mono ?_))
  rintro e u3 ⟨rfl, hb⟩
  have HB := Lib.hid (bstep HB.out hb)
  have KA := Lib.hid (KA.out.below' hb)
  clear hb
  go_wp2_with fail
  ((with_reducible refine (HN.out u3 (HVV.out.below HB.out)).mono ?_))
  rintro e w' ⟨rfl, rfl⟩
  go_wp2
  go_ret
  exact ⟨rfl, HB.out⟩
set_option maxRecDepth 100000 in
set_option maxHeartbeats 1000000 in
theorem hput_new (p g : Nat) (bs : List UInt8) (f : Int) (a0 a1 a2 a3 : Int) (S Q : ByteArray) (hE : ∀ (W : World) (V : HR), HV W V → Calls Tryd.prog 10 #[.agg #[.int .i64 a0, .int .i64 a1, .int .i64 a2, .int .i64 a3]] W fun e w' => e = .returned (.tuple #[.string S, .int .i64 0]) ∧ Below W.heap.size W w') (w : World) (V : HR) (hV : HV w V) (hL : ∀ W, Below w.heap.size w W → Calls Tryd.prog 38 #[.pointer (some ⟨p, 0, none⟩), .int .i64 f] W fun e w' => e = .returned (.tuple #[.string Q, .nilIface]) ∧ Below W.heap.size W w') (hD : ∀ W, Below w.heap.size w W → Calls Tryd.prog 33 #[.string Q] W fun e w' => e = .returned (.tuple #[.agg #[.int .i64 0, .int .i64 0, .int .i64 0, .int .i64 0], .iface 118 (.pointer (some V.hH))]) ∧ Below W.heap.size W w') (hW : ∀ W, Below w.heap.size w W → Calls Tryd.prog 23 #[.pointer (some ⟨p, 0, none⟩), .int .i64 f, .string S] W fun e w' => e = .returned (.int .i64 0) ∧ Ar w' p g bs ∧ Upd g W w') : Calls Tryd.prog 22 #[.pointer (some ⟨p, 0, none⟩), .int .i64 f, .agg #[.int .i64 a0, .int .i64 a1, .int .i64 a2, .int .i64 a3]] w fun e w' => e = .returned (.int .i64 0) ∧ Ar w' p g bs ∧ ∃ u, Below w.heap.size w u ∧ Upd g u w' := by
  have HVV := Lib.hid hV
  have HE := Lib.hid hE
  have HL := Lib.hid hL
  have HD := Lib.hid hD
  have HW := Lib.hid hW
  have HB := Lib.hid (Below.refl w.heap.size w)
  clear hV hE hL hD hW
  go_enter Tryd.func22, Tryd.ntmps22
  have HB := Lib.hid (bel_al HB.out (.cells #[.int .i64 a0, .int .i64 a1, .int .i64 a2, .int .i64 a3] 23))
  have KA := Lib.hid (Blk.new w #[.int .i64 a0, .int .i64 a1, .int .i64 a2, .int .i64 a3] 23)
  go_wp2_with fail
  generalize w.alloc (.cells #[.int .i64 a0, .int .i64 a1, .int .i64 a2, .int .i64 a3] 23) = v1 at HB KA ⊢
  ((with_reducible refine (HE.out v1 V (HVV.out.below HB.out)).mono ?_))
  rintro e u2 ⟨rfl, hb⟩
  have HB := Lib.hid (bstep HB.out hb)
  have KA := Lib.hid (KA.out.below' hb)
  clear hb
  go_wp2_with fail
  ((with_reducible refine (HL.out u2 HB.out).mono ?_))
  rintro e u3 ⟨rfl, hb⟩
  have HB := Lib.hid (bstep HB.out hb)
  have KA := Lib.hid (KA.out.below' hb)
  clear hb
  go_wp2_with fail
  ((with_reducible refine (HD.out u3 HB.out).mono ?_))
  rintro e u4 ⟨rfl, hb⟩
  have HB := Lib.hid (bstep HB.out hb)
  have KA := Lib.hid (KA.out.below' hb)
  clear hb
  have HB := Lib.hid (bel_al HB.out (.cells #[.int .i64 0, .int .i64 0, .int .i64 0, .int .i64 0] 23))
  have KA := Lib.hid (KA.out.alloc (.cells #[.int .i64 0, .int .i64 0, .int .i64 0, .int .i64 0] 23))
  have KD := Lib.hid (Blk.new u4 #[.int .i64 0, .int .i64 0, .int .i64 0, .int .i64 0] 23)
  go_wp2_with fail
  generalize u4.alloc (.cells #[.int .i64 0, .int .i64 0, .int .i64 0, .int .i64 0] 23) = v5 at HB KA KD ⊢
  ((with_reducible refine (HW.out v5 HB.out).mono ?_))
  rintro e w' ⟨rfl, hA, hU⟩
  have HA := Lib.hid hA
  have HU := Lib.hid hU
  clear hA hU
  go_wp2
  go_ret
  exact ⟨rfl, HA.out, _, HB.out, HU.out⟩
end Go.Proofs.YtmikkbhillkpkaaDoor
