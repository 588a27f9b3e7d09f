/-
  head.Get where the load goes well.
-/
import Derived.Test.YtmikkbhillkpkaaDoorHbB
namespace Go.Proofs.YtmikkbhillkpkaaDoor
open Go.RowKit Go.Lib Go.Shelf
attribute [local go_sem] Oper.semAt_some
set_option linter.unusedSimpArgs false
set_option linter.unusedVariables false

set_option maxRecDepth 100000 in
set_option maxHeartbeats 1000000 in
theorem hget_ok (p : Nat) (f b0 b1 b2 b3 D : Int) (Q : ByteArray) (w : World) (hL : ∀ W, Below w.heap.size w W → Calls Tryd.prog 38 #[.pointer (some ⟨p, 0, none⟩), .int .i64 f] W fun e w' => e = .returned (.tuple #[.string Q, .nilIface]) ∧ Below W.heap.size W w') (hD : ∀ W, Below w.heap.size w W → Calls Tryd.prog 12 #[.string Q] W fun e w' => e = .returned (.tuple #[.agg #[.int .i64 b0, .int .i64 b1, .int .i64 b2, .int .i64 b3], .int .i64 D]) ∧ Below W.heap.size W w') : Calls Tryd.prog 21 #[.pointer (some ⟨p, 0, none⟩), .int .i64 f] w fun e w' => e = .returned (.tuple #[.agg #[.int .i64 b0, .int .i64 b1, .int .i64 b2, .int .i64 b3], .int .i64 D]) ∧ Below w.heap.size w w' := by
  have HL := Lib.hid hL
  have HD := Lib.hid hD
  have HB := Lib.hid (Below.refl w.heap.size w)
  clear hL hD
  go_enter Tryd.func21, Tryd.ntmps21
  have HB := Lib.hid (bel_al HB.out (.cells #[.int .i64 0, .int .i64 0, .int .i64 0, .int .i64 0] 23))
  have KA := Lib.hid (Blk.new w #[.int .i64 0, .int .i64 0, .int .i64 0, .int .i64 0] 23)
  go_wp2_with fail
  generalize w.alloc (.cells #[.int .i64 0, .int .i64 0, .int .i64 0, .int .i64 0] 23) = v1 at HB KA ⊢
  ((with_reducible refine (HL.out v1 HB.out).mono ?_))
  rintro e u2 ⟨rfl, hb⟩
  have HB := Lib.hid (bstep HB.out hb)
  have KA := Lib.hid (KA.out.below' hb)
  clear hb
  go_wp2_with fail
  ((with_reducible refine (HD.out u2 HB.out).mono ?_))
  rintro e u3 ⟨rfl, hb⟩
  have HB := Lib.hid (bstep HB.out hb)
  have KA := Lib.hid (KA.out.below' hb)
  clear hb
  have m0 : u3.cell? ⟨w.heap.size, 0, none⟩ = some (.int .i64 0) := KA.out.cell rfl
  have e0 := KA.out.frozen 0
  have m1 : u3.cell? ⟨w.heap.size, 1, none⟩ = some (.int .i64 0) := KA.out.cell rfl
  have e1 := KA.out.frozen 1
  have m2 : u3.cell? ⟨w.heap.size, 2, none⟩ = some (.int .i64 0) := KA.out.cell rfl
  have e2 := KA.out.frozen 2
  have m3 : u3.cell? ⟨w.heap.size, 3, none⟩ = some (.int .i64 0) := KA.out.cell rfl
  have e3 := KA.out.frozen 3
  have ln := KA.out.lt
  go_wp2
  refine bodyPost_ret (v := .tuple #[.agg #[.int .i64 b0, .int .i64 b1, .int .i64 b2, .int .i64 b3], .int .i64 D]) (by simp [results, Tryd.results21, go_sem, m0, m1, m2, m3, e0, e1, e2, e3, ln]) rfl ⟨rfl, ?_⟩
  repeat (first | exact HB.out | refine bel_al' ?_ _ | refine bel_set' ?_ (Nat.le_refl _) | refine bel_dr' ?_)
set_option maxRecDepth 100000 in
set_option maxHeartbeats 1000000 in
theorem hget_err (p : Nat) (f : Int) (w : World) (V : HR) (hV : HV w V) (hL : ∀ W, Below w.heap.size w W → Calls Tryd.prog 38 #[.pointer (some ⟨p, 0, none⟩), .int .i64 f] W fun e w' => e = .returned (.tuple #[.string ⟨#[]⟩, .iface 118 (.pointer (some V.hA))]) ∧ Below W.heap.size W w') : Calls Tryd.prog 21 #[.pointer (some ⟨p, 0, none⟩), .int .i64 f] w fun e w' => e = .returned (.tuple #[.agg #[.int .i64 0, .int .i64 0, .int .i64 0, .int .i64 0], .int .i64 10]) ∧ Below w.heap.size w w' := by
  have HVV := Lib.hid hV
  have HL := Lib.hid hL
  have HN := Lib.hid (fun W hW => hnum_addr V W hW)
  have HB := Lib.hid (Below.refl w.heap.size w)
  clear hL hV
  go_enter Tryd.func21, Tryd.ntmps21
  have HB := Lib.hid (bel_al HB.out (.cells #[.int .i64 0, .int .i64 0, .int .i64 0, .int .i64 0] 23))
  have KA := Lib.hid (Blk.new w #[.int .i64 0, .int .i64 0, .int .i64 0, .int .i64 0] 23)
  go_wp2_with fail
  generalize w.alloc (.cells #[.int .i64 0, .int .i64 0, .int .i64 0, .int .i64 0] 23) = v1 at HB KA ⊢
  ((with_reducible refine (HL.out v1 HB.out).mono ?_))
  rintro e u2 ⟨rfl, hb⟩
  have HB := Lib.hid (bstep HB.out hb)
  have KA := Lib.hid (KA.out.below' hb)
  clear hb
  go_wp2_with fail
  ((with_reducible refine (HN.out u2 (HVV.out.below HB.out)).mono ?_))
  rintro e w' ⟨rfl, rfl⟩
  have m0 : u2.cell? ⟨w.heap.size, 0, none⟩ = some (.int .i64 0) := KA.out.cell rfl
  have e0 := KA.out.frozen 0
  have m1 : u2.cell? ⟨w.heap.size, 1, none⟩ = some (.int .i64 0) := KA.out.cell rfl
  have e1 := KA.out.frozen 1
  have m2 : u2.cell? ⟨w.heap.size, 2, none⟩ = some (.int .i64 0) := KA.out.cell rfl
  have e2 := KA.out.frozen 2
  have m3 : u2.cell? ⟨w.heap.size, 3, none⟩ = some (.int .i64 0) := KA.out.cell rfl
  have e3 := KA.out.frozen 3
  have ln := KA.out.lt
  go_wp2
  refine bodyPost_ret (v := .tuple #[.agg #[.int .i64 0, .int .i64 0, .int .i64 0, .int .i64 0], .int .i64 10]) (by simp [results, Tryd.results21, go_sem, m0, m1, m2, m3, e0, e1, e2, e3, ln]) rfl ⟨rfl, ?_⟩
  repeat (first | exact HB.out | refine bel_al' ?_ _ | refine bel_set' ?_ (Nat.le_refl _) | refine bel_dr' ?_)
end Go.Proofs.YtmikkbhillkpkaaDoor
