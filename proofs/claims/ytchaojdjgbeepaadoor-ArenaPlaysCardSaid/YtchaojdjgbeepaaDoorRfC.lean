/-
  selionlaw03.want, call by call.
-/
import Derived.Test.YtchaojdjgbeepaaDoorArN
import Derived.Test.YtchaojdjgbeepaaDoorRfB
namespace Go.Proofs.YtchaojdjgbeepaaDoor
open Go.RowKit Go.Lib Go.Shelf
attribute [local go_sem] Oper.semAt_some
set_option linter.unusedSimpArgs false

set_option maxRecDepth 100000 in
set_option maxHeartbeats 1000000 in
theorem want_0 (p g : Nat) (bs bs' : List UInt8) (a n : Int) (v : Nat) (s : ByteArray) (w : World) (hA : ArT 50 w p g bs) (u : Nat) (e : Int) (H : ∀ W, ArT 50 W p g bs → Below w.heap.size w W → Calls Tryd.prog 31 #[.pointer (some ⟨p, 0, none⟩), .int .i64 a] W (fun en w' => en = .returned (.tuple #[.int .u32 (u : Int), .int .i64 e]) ∧ ArT 50 w' p g bs' ∧ Upd g W w')) :
    Calls Tryd.prog 20 #[.pointer (some ⟨p, 0, none⟩), .agg #[.int .i64 0, .int .i64 a, .int .i64 n, .int .u32 (v : Int), .string s]] w fun en w' => en = .returned (.agg (saidv (⟨0, u, ⟨#[]⟩, e⟩))) ∧ ArT 50 w' p g bs' ∧ Upd g w w' := by
  obtain ⟨b0, b1, b2, hB, hsz⟩ := blk3 w #[.int .i64 0, .int .i64 a, .int .i64 n, .int .u32 (v : Int), .string s] #[.int .i64 0, .int .u32 0, .string ⟨#[]⟩, .int .i64 0] #[.int .i64 0, .int .u32 0, .string ⟨#[]⟩, .int .i64 0] 44 41 41
  have hpl := hA.hp.lt
  have hgl := hA.hg.lt
  have HC := Lib.hid (H _ (hA.below hB) hB)
  have B1 := Lib.hid b1
  have B2 := Lib.hid b2
  have HB := Lib.hid hB
  clear hA b0 b1 b2 hB hsz H
  go_enter Tryd.func20, Tryd.ntmps20
  go_wp2_with fail
  ((with_reducible refine HC.out.mono ?_))
  rintro en w1 ⟨rfl, hA, hU⟩
  have b1 := hU.blk B1.out (by omega)
  have b2 := hU.blk B2.out (by omega)
  have hs := Nat.le_trans (Nat.le_of_lt b2.lt) (Nat.le_refl _)
  have HA := Lib.hid hA
  have HU := Lib.hid ((Upd.of_below (g := g) HB.out).trans hU)
  have c10 : w1.cell? ⟨w.heap.size + 1, 0, none⟩ = some (.int .i64 0) := b1.cell rfl
  have f10 := b1.frozen 0
  have c11 : w1.cell? ⟨w.heap.size + 1, 1, none⟩ = some (.int .u32 0) := b1.cell rfl
  have f11 := b1.frozen 1
  have c12 : w1.cell? ⟨w.heap.size + 1, 2, none⟩ = some (.string ⟨#[]⟩) := b1.cell rfl
  have f12 := b1.frozen 2
  have c13 : w1.cell? ⟨w.heap.size + 1, 3, none⟩ = some (.int .i64 0) := b1.cell rfl
  have f13 := b1.frozen 3
  have c20 : w1.cell? ⟨w.heap.size + 1 + 1, 0, none⟩ = some (.int .i64 0) := b2.cell rfl
  have f20 := b2.frozen 0
  have c21 : w1.cell? ⟨w.heap.size + 1 + 1, 1, none⟩ = some (.int .u32 0) := b2.cell rfl
  have f21 := b2.frozen 1
  have c22 : w1.cell? ⟨w.heap.size + 1 + 1, 2, none⟩ = some (.string ⟨#[]⟩) := b2.cell rfl
  have f22 := b2.frozen 2
  have c23 : w1.cell? ⟨w.heap.size + 1 + 1, 3, none⟩ = some (.int .i64 0) := b2.cell rfl
  have f23 := b2.frozen 3
  have X1 := Lib.hid b1
  have X2 := Lib.hid b2
  clear b1 b2 hA hU HB B1 B2 HC hs
  go_wp2
  refine bodyPost_ret (v := .agg (saidv (⟨0, u, ⟨#[]⟩, e⟩))) (by simp [results, Tryd.results20, go_sem, sE, c10, c11, c12, c13, c20, c21, c22, c23]) rfl ⟨rfl, ?_, ?_⟩
  · repeat (first | (with_reducible exact HA.out) | refine ArT.sc _ _ _ (by omega) (by omega) ?_)
  · repeat (first | (with_reducible exact HU.out) | refine Upd.sc _ _ _ (by omega) ?_)
set_option maxRecDepth 100000 in
set_option maxHeartbeats 1000000 in
theorem want_1 (p g : Nat) (bs bs' : List UInt8) (a n : Int) (v : Nat) (s : ByteArray) (w : World) (hA : ArT 50 w p g bs) (e : Int) (H : ∀ W, ArT 50 W p g bs → Below w.heap.size w W → Calls Tryd.prog 32 #[.pointer (some ⟨p, 0, none⟩), .int .i64 a, .int .u32 (v : Int)] W (fun en w' => en = .returned (.int .i64 e) ∧ ArT 50 w' p g bs' ∧ Upd g W w')) :
    Calls Tryd.prog 20 #[.pointer (some ⟨p, 0, none⟩), .agg #[.int .i64 1, .int .i64 a, .int .i64 n, .int .u32 (v : Int), .string s]] w fun en w' => en = .returned (.agg (saidv (sE e))) ∧ ArT 50 w' p g bs' ∧ Upd g w w' := by
  obtain ⟨b0, b1, b2, hB, hsz⟩ := blk3 w #[.int .i64 1, .int .i64 a, .int .i64 n, .int .u32 (v : Int), .string s] #[.int .i64 0, .int .u32 0, .string ⟨#[]⟩, .int .i64 0] #[.int .i64 0, .int .u32 0, .string ⟨#[]⟩, .int .i64 0] 44 41 41
  have hpl := hA.hp.lt
  have hgl := hA.hg.lt
  have HC := Lib.hid (H _ (hA.below hB) hB)
  have B1 := Lib.hid b1
  have B2 := Lib.hid b2
  have HB := Lib.hid hB
  clear hA b0 b1 b2 hB hsz H
  go_enter Tryd.func20, Tryd.ntmps20
  go_wp2_with fail
  ((with_reducible refine HC.out.mono ?_))
  rintro en w1 ⟨rfl, hA, hU⟩
  have b1 := hU.blk B1.out (by omega)
  have b2 := hU.blk B2.out (by omega)
  have hs := Nat.le_trans (Nat.le_of_lt b2.lt) (Nat.le_refl _)
  have HA := Lib.hid hA
  have HU := Lib.hid ((Upd.of_below (g := g) HB.out).trans hU)
  have c10 : w1.cell? ⟨w.heap.size + 1, 0, none⟩ = some (.int .i64 0) := b1.cell rfl
  have f10 := b1.frozen 0
  have c11 : w1.cell? ⟨w.heap.size + 1, 1, none⟩ = some (.int .u32 0) := b1.cell rfl
  have f11 := b1.frozen 1
  have c12 : w1.cell? ⟨w.heap.size + 1, 2, none⟩ = some (.string ⟨#[]⟩) := b1.cell rfl
  have f12 := b1.frozen 2
  have c13 : w1.cell? ⟨w.heap.size + 1, 3, none⟩ = some (.int .i64 0) := b1.cell rfl
  have f13 := b1.frozen 3
  have c20 : w1.cell? ⟨w.heap.size + 1 + 1, 0, none⟩ = some (.int .i64 0) := b2.cell rfl
  have f20 := b2.frozen 0
  have c21 : w1.cell? ⟨w.heap.size + 1 + 1, 1, none⟩ = some (.int .u32 0) := b2.cell rfl
  have f21 := b2.frozen 1
  have c22 : w1.cell? ⟨w.heap.size + 1 + 1, 2, none⟩ = some (.string ⟨#[]⟩) := b2.cell rfl
  have f22 := b2.frozen 2
  have c23 : w1.cell? ⟨w.heap.size + 1 + 1, 3, none⟩ = some (.int .i64 0) := b2.cell rfl
  have f23 := b2.frozen 3
  have X1 := Lib.hid b1
  have X2 := Lib.hid b2
  clear b1 b2 hA hU HB B1 B2 HC hs
  go_wp2
  refine bodyPost_ret (v := .agg (saidv (sE e))) (by simp [results, Tryd.results20, go_sem, sE, c10, c11, c12, c13, c20, c21, c22, c23]) rfl ⟨rfl, ?_, ?_⟩
  · repeat (first | (with_reducible exact HA.out) | refine ArT.sc _ _ _ (by omega) (by omega) ?_)
  · repeat (first | (with_reducible exact HU.out) | refine Upd.sc _ _ _ (by omega) ?_)
set_option maxRecDepth 100000 in
set_option maxHeartbeats 1000000 in
theorem want_2 (p g : Nat) (bs bs' : List UInt8) (a n : Int) (v : Nat) (s : ByteArray) (w : World) (hA : ArT 50 w p g bs) (u e : Int) (H : ∀ W, ArT 50 W p g bs → Below w.heap.size w W → Calls Tryd.prog 33 #[.pointer (some ⟨p, 0, none⟩), .int .i64 a] W (fun en w' => en = .returned (.tuple #[.int .i64 u, .int .i64 e]) ∧ ArT 50 w' p g bs' ∧ Upd g W w')) :
    Calls Tryd.prog 20 #[.pointer (some ⟨p, 0, none⟩), .agg #[.int .i64 2, .int .i64 a, .int .i64 n, .int .u32 (v : Int), .string s]] w fun en w' => en = .returned (.agg (saidv (⟨u, 0, ⟨#[]⟩, e⟩))) ∧ ArT 50 w' p g bs' ∧ Upd g w w' := by
  obtain ⟨b0, b1, b2, hB, hsz⟩ := blk3 w #[.int .i64 2, .int .i64 a, .int .i64 n, .int .u32 (v : Int), .string s] #[.int .i64 0, .int .u32 0, .string ⟨#[]⟩, .int .i64 0] #[.int .i64 0, .int .u32 0, .string ⟨#[]⟩, .int .i64 0] 44 41 41
  have hpl := hA.hp.lt
  have hgl := hA.hg.lt
  have HC := Lib.hid (H _ (hA.below hB) hB)
  have B1 := Lib.hid b1
  have B2 := Lib.hid b2
  have HB := Lib.hid hB
  clear hA b0 b1 b2 hB hsz H
  go_enter Tryd.func20, Tryd.ntmps20
  go_wp2_with fail
  ((with_reducible refine HC.out.mono ?_))
  rintro en w1 ⟨rfl, hA, hU⟩
  have b1 := hU.blk B1.out (by omega)
  have b2 := hU.blk B2.out (by omega)
  have hs := Nat.le_trans (Nat.le_of_lt b2.lt) (Nat.le_refl _)
  have HA := Lib.hid hA
  have HU := Lib.hid ((Upd.of_below (g := g) HB.out).trans hU)
  have c10 : w1.cell? ⟨w.heap.size + 1, 0, none⟩ = some (.int .i64 0) := b1.cell rfl
  have f10 := b1.frozen 0
  have c11 : w1.cell? ⟨w.heap.size + 1, 1, none⟩ = some (.int .u32 0) := b1.cell rfl
  have f11 := b1.frozen 1
  have c12 : w1.cell? ⟨w.heap.size + 1, 2, none⟩ = some (.string ⟨#[]⟩) := b1.cell rfl
  have f12 := b1.frozen 2
  have c13 : w1.cell? ⟨w.heap.size + 1, 3, none⟩ = some (.int .i64 0) := b1.cell rfl
  have f13 := b1.frozen 3
  have c20 : w1.cell? ⟨w.heap.size + 1 + 1, 0, none⟩ = some (.int .i64 0) := b2.cell rfl
  have f20 := b2.frozen 0
  have c21 : w1.cell? ⟨w.heap.size + 1 + 1, 1, none⟩ = some (.int .u32 0) := b2.cell rfl
  have f21 := b2.frozen 1
  have c22 : w1.cell? ⟨w.heap.size + 1 + 1, 2, none⟩ = some (.string ⟨#[]⟩) := b2.cell rfl
  have f22 := b2.frozen 2
  have c23 : w1.cell? ⟨w.heap.size + 1 + 1, 3, none⟩ = some (.int .i64 0) := b2.cell rfl
  have f23 := b2.frozen 3
  have X1 := Lib.hid b1
  have X2 := Lib.hid b2
  clear b1 b2 hA hU HB B1 B2 HC hs
  go_wp2
  refine bodyPost_ret (v := .agg (saidv (⟨u, 0, ⟨#[]⟩, e⟩))) (by simp [results, Tryd.results20, go_sem, sE, c10, c11, c12, c13, c20, c21, c22, c23]) rfl ⟨rfl, ?_, ?_⟩
  · repeat (first | (with_reducible exact HA.out) | refine ArT.sc _ _ _ (by omega) (by omega) ?_)
  · repeat (first | (with_reducible exact HU.out) | refine Upd.sc _ _ _ (by omega) ?_)
set_option maxRecDepth 100000 in
set_option maxHeartbeats 1000000 in
theorem want_3 (p g : Nat) (bs bs' : List UInt8) (a n : Int) (v : Nat) (s : ByteArray) (w : World) (hA : ArT 50 w p g bs) (e : Int) (H : ∀ W, ArT 50 W p g bs → Below w.heap.size w W → Calls Tryd.prog 34 #[.pointer (some ⟨p, 0, none⟩), .int .i64 a, .int .i64 n] W (fun en w' => en = .returned (.int .i64 e) ∧ ArT 50 w' p g bs' ∧ Upd g W w')) :
    Calls Tryd.prog 20 #[.pointer (some ⟨p, 0, none⟩), .agg #[.int .i64 3, .int .i64 a, .int .i64 n, .int .u32 (v : Int), .string s]] w fun en w' => en = .returned (.agg (saidv (sE e))) ∧ ArT 50 w' p g bs' ∧ Upd g w w' := by
  obtain ⟨b0, b1, b2, hB, hsz⟩ := blk3 w #[.int .i64 3, .int .i64 a, .int .i64 n, .int .u32 (v : Int), .string s] #[.int .i64 0, .int .u32 0, .string ⟨#[]⟩, .int .i64 0] #[.int .i64 0, .int .u32 0, .string ⟨#[]⟩, .int .i64 0] 44 41 41
  have hpl := hA.hp.lt
  have hgl := hA.hg.lt
  have HC := Lib.hid (H _ (hA.below hB) hB)
  have B1 := Lib.hid b1
  have B2 := Lib.hid b2
  have HB := Lib.hid hB
  clear hA b0 b1 b2 hB hsz H
  go_enter Tryd.func20, Tryd.ntmps20
  go_wp2_with fail
  ((with_reducible refine HC.out.mono ?_))
  rintro en w1 ⟨rfl, hA, hU⟩
  have b1 := hU.blk B1.out (by omega)
  have b2 := hU.blk B2.out (by omega)
  have hs := Nat.le_trans (Nat.le_of_lt b2.lt) (Nat.le_refl _)
  have HA := Lib.hid hA
  have HU := Lib.hid ((Upd.of_below (g := g) HB.out).trans hU)
  have c10 : w1.cell? ⟨w.heap.size + 1, 0, none⟩ = some (.int .i64 0) := b1.cell rfl
  have f10 := b1.frozen 0
  have c11 : w1.cell? ⟨w.heap.size + 1, 1, none⟩ = some (.int .u32 0) := b1.cell rfl
  have f11 := b1.frozen 1
  have c12 : w1.cell? ⟨w.heap.size + 1, 2, none⟩ = some (.string ⟨#[]⟩) := b1.cell rfl
  have f12 := b1.frozen 2
  have c13 : w1.cell? ⟨w.heap.size + 1, 3, none⟩ = some (.int .i64 0) := b1.cell rfl
  have f13 := b1.frozen 3
  have c20 : w1.cell? ⟨w.heap.size + 1 + 1, 0, none⟩ = some (.int .i64 0) := b2.cell rfl
  have f20 := b2.frozen 0
  have c21 : w1.cell? ⟨w.heap.size + 1 + 1, 1, none⟩ = some (.int .u32 0) := b2.cell rfl
  have f21 := b2.frozen 1
  have c22 : w1.cell? ⟨w.heap.size + 1 + 1, 2, none⟩ = some (.string ⟨#[]⟩) := b2.cell rfl
  have f22 := b2.frozen 2
  have c23 : w1.cell? ⟨w.heap.size + 1 + 1, 3, none⟩ = some (.int .i64 0) := b2.cell rfl
  have f23 := b2.frozen 3
  have X1 := Lib.hid b1
  have X2 := Lib.hid b2
  clear b1 b2 hA hU HB B1 B2 HC hs
  go_wp2
  refine bodyPost_ret (v := .agg (saidv (sE e))) (by simp [results, Tryd.results20, go_sem, sE, c10, c11, c12, c13, c20, c21, c22, c23]) rfl ⟨rfl, ?_, ?_⟩
  · repeat (first | (with_reducible exact HA.out) | refine ArT.sc _ _ _ (by omega) (by omega) ?_)
  · repeat (first | (with_reducible exact HU.out) | refine Upd.sc _ _ _ (by omega) ?_)
set_option maxRecDepth 100000 in
set_option maxHeartbeats 1000000 in
theorem want_4 (p g : Nat) (bs bs' : List UInt8) (a n : Int) (v : Nat) (s : ByteArray) (w : World) (hA : ArT 50 w p g bs) (u : ByteArray) (e : Int) (H : ∀ W, ArT 50 W p g bs → Below w.heap.size w W → Calls Tryd.prog 35 #[.pointer (some ⟨p, 0, none⟩), .int .i64 a, .int .i64 n] W (fun en w' => en = .returned (.tuple #[.string u, .int .i64 e]) ∧ ArT 50 w' p g bs' ∧ Upd g W w')) :
    Calls Tryd.prog 20 #[.pointer (some ⟨p, 0, none⟩), .agg #[.int .i64 4, .int .i64 a, .int .i64 n, .int .u32 (v : Int), .string s]] w fun en w' => en = .returned (.agg (saidv (⟨0, 0, u, e⟩))) ∧ ArT 50 w' p g bs' ∧ Upd g w w' := by
  obtain ⟨b0, b1, b2, hB, hsz⟩ := blk3 w #[.int .i64 4, .int .i64 a, .int .i64 n, .int .u32 (v : Int), .string s] #[.int .i64 0, .int .u32 0, .string ⟨#[]⟩, .int .i64 0] #[.int .i64 0, .int .u32 0, .string ⟨#[]⟩, .int .i64 0] 44 41 41
  have hpl := hA.hp.lt
  have hgl := hA.hg.lt
  have HC := Lib.hid (H _ (hA.below hB) hB)
  have B1 := Lib.hid b1
  have B2 := Lib.hid b2
  have HB := Lib.hid hB
  clear hA b0 b1 b2 hB hsz H
  go_enter Tryd.func20, Tryd.ntmps20
  go_wp2_with fail
  ((with_reducible refine HC.out.mono ?_))
  rintro en w1 ⟨rfl, hA, hU⟩
  have b1 := hU.blk B1.out (by omega)
  have b2 := hU.blk B2.out (by omega)
  have hs := Nat.le_trans (Nat.le_of_lt b2.lt) (Nat.le_refl _)
  have HA := Lib.hid hA
  have HU := Lib.hid ((Upd.of_below (g := g) HB.out).trans hU)
  have c10 : w1.cell? ⟨w.heap.size + 1, 0, none⟩ = some (.int .i64 0) := b1.cell rfl
  have f10 := b1.frozen 0
  have c11 : w1.cell? ⟨w.heap.size + 1, 1, none⟩ = some (.int .u32 0) := b1.cell rfl
  have f11 := b1.frozen 1
  have c12 : w1.cell? ⟨w.heap.size + 1, 2, none⟩ = some (.string ⟨#[]⟩) := b1.cell rfl
  have f12 := b1.frozen 2
  have c13 : w1.cell? ⟨w.heap.size + 1, 3, none⟩ = some (.int .i64 0) := b1.cell rfl
  have f13 := b1.frozen 3
  have c20 : w1.cell? ⟨w.heap.size + 1 + 1, 0, none⟩ = some (.int .i64 0) := b2.cell rfl
  have f20 := b2.frozen 0
  have c21 : w1.cell? ⟨w.heap.size + 1 + 1, 1, none⟩ = some (.int .u32 0) := b2.cell rfl
  have f21 := b2.frozen 1
  have c22 : w1.cell? ⟨w.heap.size + 1 + 1, 2, none⟩ = some (.string ⟨#[]⟩) := b2.cell rfl
  have f22 := b2.frozen 2
  have c23 : w1.cell? ⟨w.heap.size + 1 + 1, 3, none⟩ = some (.int .i64 0) := b2.cell rfl
  have f23 := b2.frozen 3
  have X1 := Lib.hid b1
  have X2 := Lib.hid b2
  clear b1 b2 hA hU HB B1 B2 HC hs
  go_wp2
  refine bodyPost_ret (v := .agg (saidv (⟨0, 0, u, e⟩))) (by simp [results, Tryd.results20, go_sem, sE, c10, c11, c12, c13, c20, c21, c22, c23]) rfl ⟨rfl, ?_, ?_⟩
  · repeat (first | (with_reducible exact HA.out) | refine ArT.sc _ _ _ (by omega) (by omega) ?_)
  · repeat (first | (with_reducible exact HU.out) | refine Upd.sc _ _ _ (by omega) ?_)
set_option maxRecDepth 100000 in
set_option maxHeartbeats 1000000 in
theorem want_5 (p g : Nat) (bs bs' : List UInt8) (a n : Int) (v : Nat) (s : ByteArray) (w : World) (hA : ArT 50 w p g bs) (e : Int) (H : ∀ W, ArT 50 W p g bs → Below w.heap.size w W → Calls Tryd.prog 36 #[.pointer (some ⟨p, 0, none⟩), .int .i64 a, .string s] W (fun en w' => en = .returned (.int .i64 e) ∧ ArT 50 w' p g bs' ∧ Upd g W w')) :
    Calls Tryd.prog 20 #[.pointer (some ⟨p, 0, none⟩), .agg #[.int .i64 5, .int .i64 a, .int .i64 n, .int .u32 (v : Int), .string s]] w fun en w' => en = .returned (.agg (saidv (sE e))) ∧ ArT 50 w' p g bs' ∧ Upd g w w' := by
  obtain ⟨b0, b1, b2, hB, hsz⟩ := blk3 w #[.int .i64 5, .int .i64 a, .int .i64 n, .int .u32 (v : Int), .string s] #[.int .i64 0, .int .u32 0, .string ⟨#[]⟩, .int .i64 0] #[.int .i64 0, .int .u32 0, .string ⟨#[]⟩, .int .i64 0] 44 41 41
  have hpl := hA.hp.lt
  have hgl := hA.hg.lt
  have HC := Lib.hid (H _ (hA.below hB) hB)
  have B1 := Lib.hid b1
  have B2 := Lib.hid b2
  have HB := Lib.hid hB
  clear hA b0 b1 b2 hB hsz H
  go_enter Tryd.func20, Tryd.ntmps20
  go_wp2_with fail
  ((with_reducible refine HC.out.mono ?_))
  rintro en w1 ⟨rfl, hA, hU⟩
  have b1 := hU.blk B1.out (by omega)
  have b2 := hU.blk B2.out (by omega)
  have hs := Nat.le_trans (Nat.le_of_lt b2.lt) (Nat.le_refl _)
  have HA := Lib.hid hA
  have HU := Lib.hid ((Upd.of_below (g := g) HB.out).trans hU)
  have c10 : w1.cell? ⟨w.heap.size + 1, 0, none⟩ = some (.int .i64 0) := b1.cell rfl
  have f10 := b1.frozen 0
  have c11 : w1.cell? ⟨w.heap.size + 1, 1, none⟩ = some (.int .u32 0) := b1.cell rfl
  have f11 := b1.frozen 1
  have c12 : w1.cell? ⟨w.heap.size + 1, 2, none⟩ = some (.string ⟨#[]⟩) := b1.cell rfl
  have f12 := b1.frozen 2
  have c13 : w1.cell? ⟨w.heap.size + 1, 3, none⟩ = some (.int .i64 0) := b1.cell rfl
  have f13 := b1.frozen 3
  have c20 : w1.cell? ⟨w.heap.size + 1 + 1, 0, none⟩ = some (.int .i64 0) := b2.cell rfl
  have f20 := b2.frozen 0
  have c21 : w1.cell? ⟨w.heap.size + 1 + 1, 1, none⟩ = some (.int .u32 0) := b2.cell rfl
  have f21 := b2.frozen 1
  have c22 : w1.cell? ⟨w.heap.size + 1 + 1, 2, none⟩ = some (.string ⟨#[]⟩) := b2.cell rfl
  have f22 := b2.frozen 2
  have c23 : w1.cell? ⟨w.heap.size + 1 + 1, 3, none⟩ = some (.int .i64 0) := b2.cell rfl
  have f23 := b2.frozen 3
  have X1 := Lib.hid b1
  have X2 := Lib.hid b2
  clear b1 b2 hA hU HB B1 B2 HC hs
  go_wp2
  refine bodyPost_ret (v := .agg (saidv (sE e))) (by simp [results, Tryd.results20, go_sem, sE, c10, c11, c12, c13, c20, c21, c22, c23]) rfl ⟨rfl, ?_, ?_⟩
  · repeat (first | (with_reducible exact HA.out) | refine ArT.sc _ _ _ (by omega) (by omega) ?_)
  · repeat (first | (with_reducible exact HU.out) | refine Upd.sc _ _ _ (by omega) ?_)
set_option maxRecDepth 100000 in
set_option maxHeartbeats 1000000 in
theorem want_6 (p g : Nat) (bs bs' : List UInt8) (a n : Int) (v : Nat) (s : ByteArray) (w : World) (hA : ArT 50 w p g bs) (e : Int) (H : ∀ W, ArT 50 W p g bs → Below w.heap.size w W → Calls Tryd.prog 37 #[.pointer (some ⟨p, 0, none⟩), .int .i64 a, .int .i64 n] W (fun en w' => en = .returned (.int .i64 e) ∧ ArT 50 w' p g bs' ∧ Upd g W w')) :
    Calls Tryd.prog 20 #[.pointer (some ⟨p, 0, none⟩), .agg #[.int .i64 6, .int .i64 a, .int .i64 n, .int .u32 (v : Int), .string s]] w fun en w' => en = .returned (.agg (saidv (sE e))) ∧ ArT 50 w' p g bs' ∧ Upd g w w' := by
  obtain ⟨b0, b1, b2, hB, hsz⟩ := blk3 w #[.int .i64 6, .int .i64 a, .int .i64 n, .int .u32 (v : Int), .string s] #[.int .i64 0, .int .u32 0, .string ⟨#[]⟩, .int .i64 0] #[.int .i64 0, .int .u32 0, .string ⟨#[]⟩, .int .i64 0] 44 41 41
  have hpl := hA.hp.lt
  have hgl := hA.hg.lt
  have HC := Lib.hid (H _ (hA.below hB) hB)
  have B1 := Lib.hid b1
  have B2 := Lib.hid b2
  have HB := Lib.hid hB
  clear hA b0 b1 b2 hB hsz H
  go_enter Tryd.func20, Tryd.ntmps20
  go_wp2_with fail
  ((with_reducible refine HC.out.mono ?_))
  rintro en w1 ⟨rfl, hA, hU⟩
  have b1 := hU.blk B1.out (by omega)
  have b2 := hU.blk B2.out (by omega)
  have hs := Nat.le_trans (Nat.le_of_lt b2.lt) (Nat.le_refl _)
  have HA := Lib.hid hA
  have HU := Lib.hid ((Upd.of_below (g := g) HB.out).trans hU)
  have c10 : w1.cell? ⟨w.heap.size + 1, 0, none⟩ = some (.int .i64 0) := b1.cell rfl
  have f10 := b1.frozen 0
  have c11 : w1.cell? ⟨w.heap.size + 1, 1, none⟩ = some (.int .u32 0) := b1.cell rfl
  have f11 := b1.frozen 1
  have c12 : w1.cell? ⟨w.heap.size + 1, 2, none⟩ = some (.string ⟨#[]⟩) := b1.cell rfl
  have f12 := b1.frozen 2
  have c13 : w1.cell? ⟨w.heap.size + 1, 3, none⟩ = some (.int .i64 0) := b1.cell rfl
  have f13 := b1.frozen 3
  have c20 : w1.cell? ⟨w.heap.size + 1 + 1, 0, none⟩ = some (.int .i64 0) := b2.cell rfl
  have f20 := b2.frozen 0
  have c21 : w1.cell? ⟨w.heap.size + 1 + 1, 1, none⟩ = some (.int .u32 0) := b2.cell rfl
  have f21 := b2.frozen 1
  have c22 : w1.cell? ⟨w.heap.size + 1 + 1, 2, none⟩ = some (.string ⟨#[]⟩) := b2.cell rfl
  have f22 := b2.frozen 2
  have c23 : w1.cell? ⟨w.heap.size + 1 + 1, 3, none⟩ = some (.int .i64 0) := b2.cell rfl
  have f23 := b2.frozen 3
  have X1 := Lib.hid b1
  have X2 := Lib.hid b2
  clear b1 b2 hA hU HB B1 B2 HC hs
  go_wp2
  refine bodyPost_ret (v := .agg (saidv (sE e))) (by simp [results, Tryd.results20, go_sem, sE, c10, c11, c12, c13, c20, c21, c22, c23]) rfl ⟨rfl, ?_, ?_⟩
  · repeat (first | (with_reducible exact HA.out) | refine ArT.sc _ _ _ (by omega) (by omega) ?_)
  · repeat (first | (with_reducible exact HU.out) | refine Upd.sc _ _ _ (by omega) ?_)
set_option maxRecDepth 100000 in
set_option maxHeartbeats 1000000 in
theorem want_x (p g : Nat) (bs : List UInt8) (k a n : Int) (v : Nat) (s : ByteArray) (w : World) (hA : ArT 50 w p g bs) (h0 : (k == 0) = false) (h1 : (k == 1) = false) (h2 : (k == 2) = false) (h3 : (k == 3) = false) (h4 : (k == 4) = false) (h5 : (k == 5) = false) (h6 : (k == 6) = false) :
    Calls Tryd.prog 20 #[.pointer (some ⟨p, 0, none⟩), .agg #[.int .i64 k, .int .i64 a, .int .i64 n, .int .u32 (v : Int), .string s]] w fun en w' => en = .returned (.agg (saidv (sE 0))) ∧ ArT 50 w' p g bs ∧ Upd g w w' := by
  obtain ⟨b0, b1, b2, hB, hsz⟩ := blk3 w #[.int .i64 k, .int .i64 a, .int .i64 n, .int .u32 (v : Int), .string s] #[.int .i64 0, .int .u32 0, .string ⟨#[]⟩, .int .i64 0] #[.int .i64 0, .int .u32 0, .string ⟨#[]⟩, .int .i64 0] 44 41 41
  have hpl := hA.hp.lt
  have hgl := hA.hg.lt
  have HA := Lib.hid (hA.below hB)
  have HU := Lib.hid (Upd.of_below (g := g) hB)
  clear hA b0 b1 b2 hB hsz
  go_enter Tryd.func20, Tryd.ntmps20
  go_wp2
  refine bodyPost_ret (v := .agg (saidv (sE 0))) (by simp [results, Tryd.results20, go_sem, sE]) rfl ⟨rfl, ?_, ?_⟩
  · repeat (first | (with_reducible exact HA.out) | refine ArT.sc _ _ _ (by omega) (by omega) ?_)
  · repeat (first | (with_reducible exact HU.out) | refine Upd.sc _ _ _ (by omega) ?_)
theorem mr {t : TypeId} {W : World} {p g : Nat} {bs : List UInt8} {f : FuncId} {args : Array Value} {v : Value} (hA : ArT t W p g bs) (h : Calls Tryd.prog f args W fun e w' => e = .returned v ∧ W = w') :
    Calls Tryd.prog f args W fun e w' => e = .returned v ∧ ArT t w' p g bs ∧ Upd g W w' := h.mono fun e w' ⟨he, hw⟩ => by subst hw; exact ⟨he, hA, Upd.refl _ _⟩
theorem want_any (p g : Nat) (bs : List UInt8) (x : OpD) (w : World) (hA : Rr w p g bs) (hx : x.ok) :
    Calls Tryd.prog 20 #[.pointer (some ⟨p, 0, none⟩), .agg (opv x)] w fun e w' => e = .returned (.agg (saidv (doA bs x).1)) ∧ Rr w' p g (doA bs x).2 ∧ Upd g w w' := by
  obtain ⟨k, a, n, v, s⟩ := x
  obtain ⟨ha, hn, hv⟩ := hx
  simp only at ha hn hv
  by_cases k0 : k = 0
  · subst k0
    by_cases h : okB bs.length a 4 4
    · have hd : doA bs ⟨0, a, n, v, s⟩ = (⟨0, word4 bs a.toNat, ⟨#[]⟩, 0⟩, bs) := by simp [doA, h]
      rw [hd]
      obtain ⟨i, rfl⟩ : ∃ i : Nat, a = i := ⟨a.toNat, by unfold okB at h; omega⟩
      exact want_0 p g bs bs i n v s w hA _ 0 fun W hW _ => mr hW (rload_ok p g bs i W hW (by unfold okB at h; omega) (by unfold okB at h; omega))
    · have hd : doA bs ⟨0, a, n, v, s⟩ = (sE 10, bs) := by simp [doA, h]
      rw [hd]
      exact want_0 p g bs bs a n v s w hA 0 10 fun W hW hb => mr hW (rload_bad p g bs a W hW ha h)
  by_cases k1 : k = 1
  · subst k1
    by_cases h : okB bs.length a 4 4
    · have hd : doA bs ⟨1, a, n, v, s⟩ = (sE 0, wrL bs a.toNat (bytes4 v)) := by simp [doA, h]
      rw [hd]
      obtain ⟨i, rfl⟩ : ∃ i : Nat, a = i := ⟨a.toNat, by unfold okB at h; omega⟩
      exact want_1 p g bs _ i n v s w hA 0 fun W hW _ => rstore_ok p g bs i v W hW hv (by unfold okB at h; omega) (by unfold okB at h; omega)
    · have hd : doA bs ⟨1, a, n, v, s⟩ = (sE 10, bs) := by simp [doA, h]
      rw [hd]
      exact want_1 p g bs bs a n v s w hA 10 fun W hW hb => mr hW (rstore_bad p g bs a v W hW ha h)
  by_cases k2 : k = 2
  · subst k2
    by_cases h : okB bs.length a 1 1
    · have hd : doA bs ⟨2, a, n, v, s⟩ = (⟨(bs.getD a.toNat 0).toNat, 0, ⟨#[]⟩, 0⟩, bs) := by simp [doA, h]
      rw [hd]
      obtain ⟨i, rfl⟩ : ∃ i : Nat, a = i := ⟨a.toNat, by unfold okB at h; omega⟩
      have hi : i < bs.length := by unfold okB at h; omega
      rw [show ((i : Int).toNat) = i from rfl, getD_in bs i hi]
      exact want_2 p g bs bs i n v s w hA _ 0 fun W hW _ => mr hW (rbyte_ok p g bs i W hW hi)
    · have hd : doA bs ⟨2, a, n, v, s⟩ = (sE 10, bs) := by simp [doA, h]
      rw [hd]
      exact want_2 p g bs bs a n v s w hA 0 10 fun W hW hb => mr hW (rbyte_bad p g bs a W hW ha h)
  by_cases k3 : k = 3
  · subst k3
    by_cases h : okB bs.length a 1 1
    · obtain ⟨i, rfl⟩ : ∃ i : Nat, a = i := ⟨a.toNat, by unfold okB at h; omega⟩
      have hi : i < bs.length := by unfold okB at h; omega
      by_cases h2 : n < 0 ∨ 255 < n
      · have hd : doA bs ⟨3, i, n, v, s⟩ = (sE 2, bs) := by simp [doA, h, h2]
        rw [hd]
        exact want_3 p g bs bs i n v s w hA 2 fun W hW hb => mr hW (rput_no p g bs i n W hW hi h2)
      · have hd : doA bs ⟨3, i, n, v, s⟩ = (sE 0, bs.set i (UInt8.ofNat n.toNat)) := by simp [doA, h, h2]
        rw [hd]
        have hn' : n = ((UInt8.ofNat n.toNat).toNat : Int) := by
          rw [UInt8.toNat_ofNat']
          omega
        refine want_3 p g bs _ i n v s w hA 0 fun W hW hb => ?_
        have := rput_ok p g bs i (UInt8.ofNat n.toNat) W hW hi
        rw [← hn'] at this
        exact this
    · have hd : doA bs ⟨3, a, n, v, s⟩ = (sE 10, bs) := by simp [doA, h]
      rw [hd]
      exact want_3 p g bs bs a n v s w hA 10 fun W hW hb => mr hW (rput_bad p g bs a n W hW ha h)
  by_cases k4 : k = 4
  · subst k4
    by_cases h : okB bs.length a n 1
    · have hd : doA bs ⟨4, a, n, v, s⟩ = (⟨0, 0, ⟨((bs.drop a.toNat).take n.toNat).toArray⟩, 0⟩, bs) := by simp [doA, h]
      rw [hd]
      obtain ⟨i, rfl⟩ : ∃ i : Nat, a = i := ⟨a.toNat, by unfold okB at h; omega⟩
      obtain ⟨m, rfl⟩ : ∃ m : Nat, n = m := ⟨n.toNat, by unfold okB at h; omega⟩
      exact want_4 p g bs bs i m v s w hA _ 0 fun W hW _ => mr hW (rread_ok p g bs i m W hW (by unfold okB at h; omega))
    · have hd : doA bs ⟨4, a, n, v, s⟩ = (sE 10, bs) := by simp [doA, h]
      rw [hd]
      exact want_4 p g bs bs a n v s w hA _ 10 fun W hW hb => mr hW (rread_bad p g bs a n W hW ha h)
  by_cases k5 : k = 5
  · subst k5
    by_cases h : okB bs.length a s.size 1
    · have hd : doA bs ⟨5, a, n, v, s⟩ = (sE 0, wrL bs a.toNat s.data.toList) := by simp [doA, h]
      rw [hd]
      obtain ⟨i, rfl⟩ : ∃ i : Nat, a = i := ⟨a.toNat, by unfold okB at h; omega⟩
      exact want_5 p g bs _ i n v s w hA 0 fun W hW _ => rwrite_ok p g bs i s W hW (by unfold okB at h; omega)
    · have hd : doA bs ⟨5, a, n, v, s⟩ = (sE 10, bs) := by simp [doA, h]
      rw [hd]
      exact want_5 p g bs bs a n v s w hA 10 fun W hW hb => mr hW (rwrite_bad p g bs a s W hW ha h)
  by_cases k6 : k = 6
  · subst k6
    by_cases h : okB bs.length a n 1
    · have hd : doA bs ⟨6, a, n, v, s⟩ = (sE 0, wrL bs a.toNat (List.replicate n.toNat 0)) := by simp [doA, h]
      rw [hd]
      obtain ⟨i, rfl⟩ : ∃ i : Nat, a = i := ⟨a.toNat, by unfold okB at h; omega⟩
      obtain ⟨m, rfl⟩ : ∃ m : Nat, n = m := ⟨n.toNat, by unfold okB at h; omega⟩
      exact want_6 p g bs _ i m v s w hA 0 fun W hW _ => rzero_ok p g bs i m W hW (by unfold okB at h; omega)
    · have hd : doA bs ⟨6, a, n, v, s⟩ = (sE 10, bs) := by simp [doA, h]
      rw [hd]
      exact want_6 p g bs bs a n v s w hA 10 fun W hW hb => mr hW (rzero_bad p g bs a n W hW ha h)
  have hd : doA bs ⟨k, a, n, v, s⟩ = (sE 0, bs) := by simp [doA, k0, k1, k2, k3, k4, k5, k6]
  rw [hd]
  exact want_x p g bs k a n v s w hA (by simpa using k0) (by simpa using k1) (by simpa using k2) (by simpa using k3) (by simpa using k4) (by simpa using k5) (by simpa using k6)

end Go.Proofs.YtchaojdjgbeepaaDoor
