/-
  selionlaw03.do, call by call.
-/
import Derived.Test.YtchaojdjgbeepaaDoorArL
namespace Go.Proofs.YtchaojdjgbeepaaDoor
open Go.RowKit Go.Lib Go.Shelf
attribute [local go_sem] Oper.semAt_some
set_option linter.unusedSimpArgs false

set_option maxRecDepth 100000 in
set_option maxHeartbeats 1000000 in
theorem do_0 (p g : Nat) (bs bs' : List UInt8) (a n : Int) (v : Nat) (s : ByteArray) (w : World) (hA : ArT 68 w p g bs) (u : Nat) (e : Int) (H : ∀ W, ArT 68 W p g bs → Below w.heap.size w W → Calls Tryd.prog 12 #[.pointer (some ⟨p, 0, none⟩), .int .i64 a] W (fun en w' => en = .returned (.tuple #[.int .u32 (u : Int), .int .i64 e]) ∧ ArT 68 w' p g bs' ∧ Upd g W w')) :
    Calls Tryd.prog 19 #[.pointer (some ⟨p, 0, none⟩), .agg #[.int .i64 0, .int .i64 a, .int .i64 n, .int .u32 (v : Int), .string s]] w fun en w' => en = .returned (.agg (saidv (⟨0, u, ⟨#[]⟩, e⟩))) ∧ ArT 68 w' p g bs' ∧ Upd g w w' := by
  obtain ⟨b0, b1, b2, hB, hsz⟩ := blk3 w #[.int .i64 0, .int .i64 a, .int .i64 n, .int .u32 (v : Int), .string s] #[.int .i64 0, .int .u32 0, .string ⟨#[]⟩, .int .i64 0] #[.int .i64 0, .int .u32 0, .string ⟨#[]⟩, .int .i64 0] 44 41 41
  have hpl := hA.hp.lt
  have hgl := hA.hg.lt
  have HC := Lib.hid (H _ (hA.below hB) hB)
  have B1 := Lib.hid b1
  have B2 := Lib.hid b2
  have HB := Lib.hid hB
  clear hA b0 b1 b2 hB hsz H
  go_enter Tryd.func19, Tryd.ntmps19
  go_wp2_with fail
  ((with_reducible refine HC.out.mono ?_))
  rintro en w1 ⟨rfl, hA, hU⟩
  have b1 := hU.blk B1.out (by omega)
  have b2 := hU.blk B2.out (by omega)
  have hs := Nat.le_trans (Nat.le_of_lt b2.lt) (Nat.le_refl _)
  have HA := Lib.hid hA
  have HU := Lib.hid ((Upd.of_below (g := g) HB.out).trans hU)
  have c10 : w1.cell? ⟨w.heap.size + 1, 0, none⟩ = some (.int .i64 0) := b1.cell rfl
  have f10 := b1.frozen 0
  have c11 : w1.cell? ⟨w.heap.size + 1, 1, none⟩ = some (.int .u32 0) := b1.cell rfl
  have f11 := b1.frozen 1
  have c12 : w1.cell? ⟨w.heap.size + 1, 2, none⟩ = some (.string ⟨#[]⟩) := b1.cell rfl
  have f12 := b1.frozen 2
  have c13 : w1.cell? ⟨w.heap.size + 1, 3, none⟩ = some (.int .i64 0) := b1.cell rfl
  have f13 := b1.frozen 3
  have c20 : w1.cell? ⟨w.heap.size + 1 + 1, 0, none⟩ = some (.int .i64 0) := b2.cell rfl
  have f20 := b2.frozen 0
  have c21 : w1.cell? ⟨w.heap.size + 1 + 1, 1, none⟩ = some (.int .u32 0) := b2.cell rfl
  have f21 := b2.frozen 1
  have c22 : w1.cell? ⟨w.heap.size + 1 + 1, 2, none⟩ = some (.string ⟨#[]⟩) := b2.cell rfl
  have f22 := b2.frozen 2
  have c23 : w1.cell? ⟨w.heap.size + 1 + 1, 3, none⟩ = some (.int .i64 0) := b2.cell rfl
  have f23 := b2.frozen 3
  have X1 := Lib.hid b1
  have X2 := Lib.hid b2
  clear b1 b2 hA hU HB B1 B2 HC hs
  go_wp2
  refine bodyPost_ret (v := .agg (saidv (⟨0, u, ⟨#[]⟩, e⟩))) (by simp [results, Tryd.results19, go_sem, sE, c10, c11, c12, c13, c20, c21, c22, c23]) rfl ⟨rfl, ?_, ?_⟩
  · repeat (first | (with_reducible exact HA.out) | refine ArT.sc _ _ _ (by omega) (by omega) ?_)
  · repeat (first | (with_reducible exact HU.out) | refine Upd.sc _ _ _ (by omega) ?_)
set_option maxRecDepth 100000 in
set_option maxHeartbeats 1000000 in
theorem do_1 (p g : Nat) (bs bs' : List UInt8) (a n : Int) (v : Nat) (s : ByteArray) (w : World) (hA : ArT 68 w p g bs) (e : Int) (H : ∀ W, ArT 68 W p g bs → Below w.heap.size w W → Calls Tryd.prog 25 #[.pointer (some ⟨p, 0, none⟩), .int .i64 a, .int .u32 (v : Int)] W (fun en w' => en = .returned (.int .i64 e) ∧ ArT 68 w' p g bs' ∧ Upd g W w')) :
    Calls Tryd.prog 19 #[.pointer (some ⟨p, 0, none⟩), .agg #[.int .i64 1, .int .i64 a, .int .i64 n, .int .u32 (v : Int), .string s]] w fun en w' => en = .returned (.agg (saidv (sE e))) ∧ ArT 68 w' p g bs' ∧ Upd g w w' := by
  obtain ⟨b0, b1, b2, hB, hsz⟩ := blk3 w #[.int .i64 1, .int .i64 a, .int .i64 n, .int .u32 (v : Int), .string s] #[.int .i64 0, .int .u32 0, .string ⟨#[]⟩, .int .i64 0] #[.int .i64 0, .int .u32 0, .string ⟨#[]⟩, .int .i64 0] 44 41 41
  have hpl := hA.hp.lt
  have hgl := hA.hg.lt
  have HC := Lib.hid (H _ (hA.below hB) hB)
  have B1 := Lib.hid b1
  have B2 := Lib.hid b2
  have HB := Lib.hid hB
  clear hA b0 b1 b2 hB hsz H
  go_enter Tryd.func19, Tryd.ntmps19
  go_wp2_with fail
  ((with_reducible refine HC.out.mono ?_))
  rintro en w1 ⟨rfl, hA, hU⟩
  have b1 := hU.blk B1.out (by omega)
  have b2 := hU.blk B2.out (by omega)
  have hs := Nat.le_trans (Nat.le_of_lt b2.lt) (Nat.le_refl _)
  have HA := Lib.hid hA
  have HU := Lib.hid ((Upd.of_below (g := g) HB.out).trans hU)
  have c10 : w1.cell? ⟨w.heap.size + 1, 0, none⟩ = some (.int .i64 0) := b1.cell rfl
  have f10 := b1.frozen 0
  have c11 : w1.cell? ⟨w.heap.size + 1, 1, none⟩ = some (.int .u32 0) := b1.cell rfl
  have f11 := b1.frozen 1
  have c12 : w1.cell? ⟨w.heap.size + 1, 2, none⟩ = some (.string ⟨#[]⟩) := b1.cell rfl
  have f12 := b1.frozen 2
  have c13 : w1.cell? ⟨w.heap.size + 1, 3, none⟩ = some (.int .i64 0) := b1.cell rfl
  have f13 := b1.frozen 3
  have c20 : w1.cell? ⟨w.heap.size + 1 + 1, 0, none⟩ = some (.int .i64 0) := b2.cell rfl
  have f20 := b2.frozen 0
  have c21 : w1.cell? ⟨w.heap.size + 1 + 1, 1, none⟩ = some (.int .u32 0) := b2.cell rfl
  have f21 := b2.frozen 1
  have c22 : w1.cell? ⟨w.heap.size + 1 + 1, 2, none⟩ = some (.string ⟨#[]⟩) := b2.cell rfl
  have f22 := b2.frozen 2
  have c23 : w1.cell? ⟨w.heap.size + 1 + 1, 3, none⟩ = some (.int .i64 0) := b2.cell rfl
  have f23 := b2.frozen 3
  have X1 := Lib.hid b1
  have X2 := Lib.hid b2
  clear b1 b2 hA hU HB B1 B2 HC hs
  go_wp2
  refine bodyPost_ret (v := .agg (saidv (sE e))) (by simp [results, Tryd.results19, go_sem, sE, c10, c11, c12, c13, c20, c21, c22, c23]) rfl ⟨rfl, ?_, ?_⟩
  · repeat (first | (with_reducible exact HA.out) | refine ArT.sc _ _ _ (by omega) (by omega) ?_)
  · repeat (first | (with_reducible exact HU.out) | refine Upd.sc _ _ _ (by omega) ?_)
set_option maxRecDepth 100000 in
set_option maxHeartbeats 1000000 in
theorem do_2 (p g : Nat) (bs bs' : List UInt8) (a n : Int) (v : Nat) (s : ByteArray) (w : World) (hA : ArT 68 w p g bs) (u e : Int) (H : ∀ W, ArT 68 W p g bs → Below w.heap.size w W → Calls Tryd.prog 13 #[.pointer (some ⟨p, 0, none⟩), .int .i64 a] W (fun en w' => en = .returned (.tuple #[.int .i64 u, .int .i64 e]) ∧ ArT 68 w' p g bs' ∧ Upd g W w')) :
    Calls Tryd.prog 19 #[.pointer (some ⟨p, 0, none⟩), .agg #[.int .i64 2, .int .i64 a, .int .i64 n, .int .u32 (v : Int), .string s]] w fun en w' => en = .returned (.agg (saidv (⟨u, 0, ⟨#[]⟩, e⟩))) ∧ ArT 68 w' p g bs' ∧ Upd g w w' := by
  obtain ⟨b0, b1, b2, hB, hsz⟩ := blk3 w #[.int .i64 2, .int .i64 a, .int .i64 n, .int .u32 (v : Int), .string s] #[.int .i64 0, .int .u32 0, .string ⟨#[]⟩, .int .i64 0] #[.int .i64 0, .int .u32 0, .string ⟨#[]⟩, .int .i64 0] 44 41 41
  have hpl := hA.hp.lt
  have hgl := hA.hg.lt
  have HC := Lib.hid (H _ (hA.below hB) hB)
  have B1 := Lib.hid b1
  have B2 := Lib.hid b2
  have HB := Lib.hid hB
  clear hA b0 b1 b2 hB hsz H
  go_enter Tryd.func19, Tryd.ntmps19
  go_wp2_with fail
  ((with_reducible refine HC.out.mono ?_))
  rintro en w1 ⟨rfl, hA, hU⟩
  have b1 := hU.blk B1.out (by omega)
  have b2 := hU.blk B2.out (by omega)
  have hs := Nat.le_trans (Nat.le_of_lt b2.lt) (Nat.le_refl _)
  have HA := Lib.hid hA
  have HU := Lib.hid ((Upd.of_below (g := g) HB.out).trans hU)
  have c10 : w1.cell? ⟨w.heap.size + 1, 0, none⟩ = some (.int .i64 0) := b1.cell rfl
  have f10 := b1.frozen 0
  have c11 : w1.cell? ⟨w.heap.size + 1, 1, none⟩ = some (.int .u32 0) := b1.cell rfl
  have f11 := b1.frozen 1
  have c12 : w1.cell? ⟨w.heap.size + 1, 2, none⟩ = some (.string ⟨#[]⟩) := b1.cell rfl
  have f12 := b1.frozen 2
  have c13 : w1.cell? ⟨w.heap.size + 1, 3, none⟩ = some (.int .i64 0) := b1.cell rfl
  have f13 := b1.frozen 3
  have c20 : w1.cell? ⟨w.heap.size + 1 + 1, 0, none⟩ = some (.int .i64 0) := b2.cell rfl
  have f20 := b2.frozen 0
  have c21 : w1.cell? ⟨w.heap.size + 1 + 1, 1, none⟩ = some (.int .u32 0) := b2.cell rfl
  have f21 := b2.frozen 1
  have c22 : w1.cell? ⟨w.heap.size + 1 + 1, 2, none⟩ = some (.string ⟨#[]⟩) := b2.cell rfl
  have f22 := b2.frozen 2
  have c23 : w1.cell? ⟨w.heap.size + 1 + 1, 3, none⟩ = some (.int .i64 0) := b2.cell rfl
  have f23 := b2.frozen 3
  have X1 := Lib.hid b1
  have X2 := Lib.hid b2
  clear b1 b2 hA hU HB B1 B2 HC hs
  go_wp2
  refine bodyPost_ret (v := .agg (saidv (⟨u, 0, ⟨#[]⟩, e⟩))) (by simp [results, Tryd.results19, go_sem, sE, c10, c11, c12, c13, c20, c21, c22, c23]) rfl ⟨rfl, ?_, ?_⟩
  · repeat (first | (with_reducible exact HA.out) | refine ArT.sc _ _ _ (by omega) (by omega) ?_)
  · repeat (first | (with_reducible exact HU.out) | refine Upd.sc _ _ _ (by omega) ?_)
set_option maxRecDepth 100000 in
set_option maxHeartbeats 1000000 in
theorem do_3 (p g : Nat) (bs bs' : List UInt8) (a n : Int) (v : Nat) (s : ByteArray) (w : World) (hA : ArT 68 w p g bs) (e : Int) (H : ∀ W, ArT 68 W p g bs → Below w.heap.size w W → Calls Tryd.prog 26 #[.pointer (some ⟨p, 0, none⟩), .int .i64 a, .int .i64 n] W (fun en w' => en = .returned (.int .i64 e) ∧ ArT 68 w' p g bs' ∧ Upd g W w')) :
    Calls Tryd.prog 19 #[.pointer (some ⟨p, 0, none⟩), .agg #[.int .i64 3, .int .i64 a, .int .i64 n, .int .u32 (v : Int), .string s]] w fun en w' => en = .returned (.agg (saidv (sE e))) ∧ ArT 68 w' p g bs' ∧ Upd g w w' := by
  obtain ⟨b0, b1, b2, hB, hsz⟩ := blk3 w #[.int .i64 3, .int .i64 a, .int .i64 n, .int .u32 (v : Int), .string s] #[.int .i64 0, .int .u32 0, .string ⟨#[]⟩, .int .i64 0] #[.int .i64 0, .int .u32 0, .string ⟨#[]⟩, .int .i64 0] 44 41 41
  have hpl := hA.hp.lt
  have hgl := hA.hg.lt
  have HC := Lib.hid (H _ (hA.below hB) hB)
  have B1 := Lib.hid b1
  have B2 := Lib.hid b2
  have HB := Lib.hid hB
  clear hA b0 b1 b2 hB hsz H
  go_enter Tryd.func19, Tryd.ntmps19
  go_wp2_with fail
  ((with_reducible refine HC.out.mono ?_))
  rintro en w1 ⟨rfl, hA, hU⟩
  have b1 := hU.blk B1.out (by omega)
  have b2 := hU.blk B2.out (by omega)
  have hs := Nat.le_trans (Nat.le_of_lt b2.lt) (Nat.le_refl _)
  have HA := Lib.hid hA
  have HU := Lib.hid ((Upd.of_below (g := g) HB.out).trans hU)
  have c10 : w1.cell? ⟨w.heap.size + 1, 0, none⟩ = some (.int .i64 0) := b1.cell rfl
  have f10 := b1.frozen 0
  have c11 : w1.cell? ⟨w.heap.size + 1, 1, none⟩ = some (.int .u32 0) := b1.cell rfl
  have f11 := b1.frozen 1
  have c12 : w1.cell? ⟨w.heap.size + 1, 2, none⟩ = some (.string ⟨#[]⟩) := b1.cell rfl
  have f12 := b1.frozen 2
  have c13 : w1.cell? ⟨w.heap.size + 1, 3, none⟩ = some (.int .i64 0) := b1.cell rfl
  have f13 := b1.frozen 3
  have c20 : w1.cell? ⟨w.heap.size + 1 + 1, 0, none⟩ = some (.int .i64 0) := b2.cell rfl
  have f20 := b2.frozen 0
  have c21 : w1.cell? ⟨w.heap.size + 1 + 1, 1, none⟩ = some (.int .u32 0) := b2.cell rfl
  have f21 := b2.frozen 1
  have c22 : w1.cell? ⟨w.heap.size + 1 + 1, 2, none⟩ = some (.string ⟨#[]⟩) := b2.cell rfl
  have f22 := b2.frozen 2
  have c23 : w1.cell? ⟨w.heap.size + 1 + 1, 3, none⟩ = some (.int .i64 0) := b2.cell rfl
  have f23 := b2.frozen 3
  have X1 := Lib.hid b1
  have X2 := Lib.hid b2
  clear b1 b2 hA hU HB B1 B2 HC hs
  go_wp2
  refine bodyPost_ret (v := .agg (saidv (sE e))) (by simp [results, Tryd.results19, go_sem, sE, c10, c11, c12, c13, c20, c21, c22, c23]) rfl ⟨rfl, ?_, ?_⟩
  · repeat (first | (with_reducible exact HA.out) | refine ArT.sc _ _ _ (by omega) (by omega) ?_)
  · repeat (first | (with_reducible exact HU.out) | refine Upd.sc _ _ _ (by omega) ?_)
set_option maxRecDepth 100000 in
set_option maxHeartbeats 1000000 in
theorem do_4 (p g : Nat) (bs bs' : List UInt8) (a n : Int) (v : Nat) (s : ByteArray) (w : World) (hA : ArT 68 w p g bs) (u : ByteArray) (e : Int) (H : ∀ W, ArT 68 W p g bs → Below w.heap.size w W → Calls Tryd.prog 21 #[.pointer (some ⟨p, 0, none⟩), .int .i64 a, .int .i64 n] W (fun en w' => en = .returned (.tuple #[.string u, .int .i64 e]) ∧ ArT 68 w' p g bs' ∧ Upd g W w')) :
    Calls Tryd.prog 19 #[.pointer (some ⟨p, 0, none⟩), .agg #[.int .i64 4, .int .i64 a, .int .i64 n, .int .u32 (v : Int), .string s]] w fun en w' => en = .returned (.agg (saidv (⟨0, 0, u, e⟩))) ∧ ArT 68 w' p g bs' ∧ Upd g w w' := by
  obtain ⟨b0, b1, b2, hB, hsz⟩ := blk3 w #[.int .i64 4, .int .i64 a, .int .i64 n, .int .u32 (v : Int), .string s] #[.int .i64 0, .int .u32 0, .string ⟨#[]⟩, .int .i64 0] #[.int .i64 0, .int .u32 0, .string ⟨#[]⟩, .int .i64 0] 44 41 41
  have hpl := hA.hp.lt
  have hgl := hA.hg.lt
  have HC := Lib.hid (H _ (hA.below hB) hB)
  have B1 := Lib.hid b1
  have B2 := Lib.hid b2
  have HB := Lib.hid hB
  clear hA b0 b1 b2 hB hsz H
  go_enter Tryd.func19, Tryd.ntmps19
  go_wp2_with fail
  ((with_reducible refine HC.out.mono ?_))
  rintro en w1 ⟨rfl, hA, hU⟩
  have b1 := hU.blk B1.out (by omega)
  have b2 := hU.blk B2.out (by omega)
  have hs := Nat.le_trans (Nat.le_of_lt b2.lt) (Nat.le_refl _)
  have HA := Lib.hid hA
  have HU := Lib.hid ((Upd.of_below (g := g) HB.out).trans hU)
  have c10 : w1.cell? ⟨w.heap.size + 1, 0, none⟩ = some (.int .i64 0) := b1.cell rfl
  have f10 := b1.frozen 0
  have c11 : w1.cell? ⟨w.heap.size + 1, 1, none⟩ = some (.int .u32 0) := b1.cell rfl
  have f11 := b1.frozen 1
  have c12 : w1.cell? ⟨w.heap.size + 1, 2, none⟩ = some (.string ⟨#[]⟩) := b1.cell rfl
  have f12 := b1.frozen 2
  have c13 : w1.cell? ⟨w.heap.size + 1, 3, none⟩ = some (.int .i64 0) := b1.cell rfl
  have f13 := b1.frozen 3
  have c20 : w1.cell? ⟨w.heap.size + 1 + 1, 0, none⟩ = some (.int .i64 0) := b2.cell rfl
  have f20 := b2.frozen 0
  have c21 : w1.cell? ⟨w.heap.size + 1 + 1, 1, none⟩ = some (.int .u32 0) := b2.cell rfl
  have f21 := b2.frozen 1
  have c22 : w1.cell? ⟨w.heap.size + 1 + 1, 2, none⟩ = some (.string ⟨#[]⟩) := b2.cell rfl
  have f22 := b2.frozen 2
  have c23 : w1.cell? ⟨w.heap.size + 1 + 1, 3, none⟩ = some (.int .i64 0) := b2.cell rfl
  have f23 := b2.frozen 3
  have X1 := Lib.hid b1
  have X2 := Lib.hid b2
  clear b1 b2 hA hU HB B1 B2 HC hs
  go_wp2
  refine bodyPost_ret (v := .agg (saidv (⟨0, 0, u, e⟩))) (by simp [results, Tryd.results19, go_sem, sE, c10, c11, c12, c13, c20, c21, c22, c23]) rfl ⟨rfl, ?_, ?_⟩
  · repeat (first | (with_reducible exact HA.out) | refine ArT.sc _ _ _ (by omega) (by omega) ?_)
  · repeat (first | (with_reducible exact HU.out) | refine Upd.sc _ _ _ (by omega) ?_)
set_option maxRecDepth 100000 in
set_option maxHeartbeats 1000000 in
theorem do_5 (p g : Nat) (bs bs' : List UInt8) (a n : Int) (v : Nat) (s : ByteArray) (w : World) (hA : ArT 68 w p g bs) (e : Int) (H : ∀ W, ArT 68 W p g bs → Below w.heap.size w W → Calls Tryd.prog 24 #[.pointer (some ⟨p, 0, none⟩), .int .i64 a, .string s] W (fun en w' => en = .returned (.int .i64 e) ∧ ArT 68 w' p g bs' ∧ Upd g W w')) :
    Calls Tryd.prog 19 #[.pointer (some ⟨p, 0, none⟩), .agg #[.int .i64 5, .int .i64 a, .int .i64 n, .int .u32 (v : Int), .string s]] w fun en w' => en = .returned (.agg (saidv (sE e))) ∧ ArT 68 w' p g bs' ∧ Upd g w w' := by
  obtain ⟨b0, b1, b2, hB, hsz⟩ := blk3 w #[.int .i64 5, .int .i64 a, .int .i64 n, .int .u32 (v : Int), .string s] #[.int .i64 0, .int .u32 0, .string ⟨#[]⟩, .int .i64 0] #[.int .i64 0, .int .u32 0, .string ⟨#[]⟩, .int .i64 0] 44 41 41
  have hpl := hA.hp.lt
  have hgl := hA.hg.lt
  have HC := Lib.hid (H _ (hA.below hB) hB)
  have B1 := Lib.hid b1
  have B2 := Lib.hid b2
  have HB := Lib.hid hB
  clear hA b0 b1 b2 hB hsz H
  go_enter Tryd.func19, Tryd.ntmps19
  go_wp2_with fail
  ((with_reducible refine HC.out.mono ?_))
  rintro en w1 ⟨rfl, hA, hU⟩
  have b1 := hU.blk B1.out (by omega)
  have b2 := hU.blk B2.out (by omega)
  have hs := Nat.le_trans (Nat.le_of_lt b2.lt) (Nat.le_refl _)
  have HA := Lib.hid hA
  have HU := Lib.hid ((Upd.of_below (g := g) HB.out).trans hU)
  have c10 : w1.cell? ⟨w.heap.size + 1, 0, none⟩ = some (.int .i64 0) := b1.cell rfl
  have f10 := b1.frozen 0
  have c11 : w1.cell? ⟨w.heap.size + 1, 1, none⟩ = some (.int .u32 0) := b1.cell rfl
  have f11 := b1.frozen 1
  have c12 : w1.cell? ⟨w.heap.size + 1, 2, none⟩ = some (.string ⟨#[]⟩) := b1.cell rfl
  have f12 := b1.frozen 2
  have c13 : w1.cell? ⟨w.heap.size + 1, 3, none⟩ = some (.int .i64 0) := b1.cell rfl
  have f13 := b1.frozen 3
  have c20 : w1.cell? ⟨w.heap.size + 1 + 1, 0, none⟩ = some (.int .i64 0) := b2.cell rfl
  have f20 := b2.frozen 0
  have c21 : w1.cell? ⟨w.heap.size + 1 + 1, 1, none⟩ = some (.int .u32 0) := b2.cell rfl
  have f21 := b2.frozen 1
  have c22 : w1.cell? ⟨w.heap.size + 1 + 1, 2, none⟩ = some (.string ⟨#[]⟩) := b2.cell rfl
  have f22 := b2.frozen 2
  have c23 : w1.cell? ⟨w.heap.size + 1 + 1, 3, none⟩ = some (.int .i64 0) := b2.cell rfl
  have f23 := b2.frozen 3
  have X1 := Lib.hid b1
  have X2 := Lib.hid b2
  clear b1 b2 hA hU HB B1 B2 HC hs
  go_wp2
  refine bodyPost_ret (v := .agg (saidv (sE e))) (by simp [results, Tryd.results19, go_sem, sE, c10, c11, c12, c13, c20, c21, c22, c23]) rfl ⟨rfl, ?_, ?_⟩
  · repeat (first | (with_reducible exact HA.out) | refine ArT.sc _ _ _ (by omega) (by omega) ?_)
  · repeat (first | (with_reducible exact HU.out) | refine Upd.sc _ _ _ (by omega) ?_)
set_option maxRecDepth 100000 in
set_option maxHeartbeats 1000000 in
theorem do_6 (p g : Nat) (bs bs' : List UInt8) (a n : Int) (v : Nat) (s : ByteArray) (w : World) (hA : ArT 68 w p g bs) (e : Int) (H : ∀ W, ArT 68 W p g bs → Below w.heap.size w W → Calls Tryd.prog 18 #[.pointer (some ⟨p, 0, none⟩), .int .i64 a, .int .i64 n] W (fun en w' => en = .returned (.int .i64 e) ∧ ArT 68 w' p g bs' ∧ Upd g W w')) :
    Calls Tryd.prog 19 #[.pointer (some ⟨p, 0, none⟩), .agg #[.int .i64 6, .int .i64 a, .int .i64 n, .int .u32 (v : Int), .string s]] w fun en w' => en = .returned (.agg (saidv (sE e))) ∧ ArT 68 w' p g bs' ∧ Upd g w w' := by
  obtain ⟨b0, b1, b2, hB, hsz⟩ := blk3 w #[.int .i64 6, .int .i64 a, .int .i64 n, .int .u32 (v : Int), .string s] #[.int .i64 0, .int .u32 0, .string ⟨#[]⟩, .int .i64 0] #[.int .i64 0, .int .u32 0, .string ⟨#[]⟩, .int .i64 0] 44 41 41
  have hpl := hA.hp.lt
  have hgl := hA.hg.lt
  have HC := Lib.hid (H _ (hA.below hB) hB)
  have B1 := Lib.hid b1
  have B2 := Lib.hid b2
  have HB := Lib.hid hB
  clear hA b0 b1 b2 hB hsz H
  go_enter Tryd.func19, Tryd.ntmps19
  go_wp2_with fail
  ((with_reducible refine HC.out.mono ?_))
  rintro en w1 ⟨rfl, hA, hU⟩
  have b1 := hU.blk B1.out (by omega)
  have b2 := hU.blk B2.out (by omega)
  have hs := Nat.le_trans (Nat.le_of_lt b2.lt) (Nat.le_refl _)
  have HA := Lib.hid hA
  have HU := Lib.hid ((Upd.of_below (g := g) HB.out).trans hU)
  have c10 : w1.cell? ⟨w.heap.size + 1, 0, none⟩ = some (.int .i64 0) := b1.cell rfl
  have f10 := b1.frozen 0
  have c11 : w1.cell? ⟨w.heap.size + 1, 1, none⟩ = some (.int .u32 0) := b1.cell rfl
  have f11 := b1.frozen 1
  have c12 : w1.cell? ⟨w.heap.size + 1, 2, none⟩ = some (.string ⟨#[]⟩) := b1.cell rfl
  have f12 := b1.frozen 2
  have c13 : w1.cell? ⟨w.heap.size + 1, 3, none⟩ = some (.int .i64 0) := b1.cell rfl
  have f13 := b1.frozen 3
  have c20 : w1.cell? ⟨w.heap.size + 1 + 1, 0, none⟩ = some (.int .i64 0) := b2.cell rfl
  have f20 := b2.frozen 0
  have c21 : w1.cell? ⟨w.heap.size + 1 + 1, 1, none⟩ = some (.int .u32 0) := b2.cell rfl
  have f21 := b2.frozen 1
  have c22 : w1.cell? ⟨w.heap.size + 1 + 1, 2, none⟩ = some (.string ⟨#[]⟩) := b2.cell rfl
  have f22 := b2.frozen 2
  have c23 : w1.cell? ⟨w.heap.size + 1 + 1, 3, none⟩ = some (.int .i64 0) := b2.cell rfl
  have f23 := b2.frozen 3
  have X1 := Lib.hid b1
  have X2 := Lib.hid b2
  clear b1 b2 hA hU HB B1 B2 HC hs
  go_wp2
  refine bodyPost_ret (v := .agg (saidv (sE e))) (by simp [results, Tryd.results19, go_sem, sE, c10, c11, c12, c13, c20, c21, c22, c23]) rfl ⟨rfl, ?_, ?_⟩
  · repeat (first | (with_reducible exact HA.out) | refine ArT.sc _ _ _ (by omega) (by omega) ?_)
  · repeat (first | (with_reducible exact HU.out) | refine Upd.sc _ _ _ (by omega) ?_)
set_option maxRecDepth 100000 in
set_option maxHeartbeats 1000000 in
theorem do_x (p g : Nat) (bs : List UInt8) (k a n : Int) (v : Nat) (s : ByteArray) (w : World) (hA : ArT 68 w p g bs) (h0 : (k == 0) = false) (h1 : (k == 1) = false) (h2 : (k == 2) = false) (h3 : (k == 3) = false) (h4 : (k == 4) = false) (h5 : (k == 5) = false) (h6 : (k == 6) = false) :
    Calls Tryd.prog 19 #[.pointer (some ⟨p, 0, none⟩), .agg #[.int .i64 k, .int .i64 a, .int .i64 n, .int .u32 (v : Int), .string s]] w fun en w' => en = .returned (.agg (saidv (sE 0))) ∧ ArT 68 w' p g bs ∧ Upd g w w' := by
  obtain ⟨b0, b1, b2, hB, hsz⟩ := blk3 w #[.int .i64 k, .int .i64 a, .int .i64 n, .int .u32 (v : Int), .string s] #[.int .i64 0, .int .u32 0, .string ⟨#[]⟩, .int .i64 0] #[.int .i64 0, .int .u32 0, .string ⟨#[]⟩, .int .i64 0] 44 41 41
  have hpl := hA.hp.lt
  have hgl := hA.hg.lt
  have HA := Lib.hid (hA.below hB)
  have HU := Lib.hid (Upd.of_below (g := g) hB)
  clear hA b0 b1 b2 hB hsz
  go_enter Tryd.func19, Tryd.ntmps19
  go_wp2
  refine bodyPost_ret (v := .agg (saidv (sE 0))) (by simp [results, Tryd.results19, go_sem, sE]) rfl ⟨rfl, ?_, ?_⟩
  · repeat (first | (with_reducible exact HA.out) | refine ArT.sc _ _ _ (by omega) (by omega) ?_)
  · repeat (first | (with_reducible exact HU.out) | refine Upd.sc _ _ _ (by omega) ?_)
end Go.Proofs.YtchaojdjgbeepaaDoor
