/-
  addr.Span.
-/
import Derived.Test.YtgjhdjfjfmbejaaDoorAdD

namespace Go.Proofs.YtgjhdjfjfmbejaaDoor.Ad
open Go.RowKit Go.Lib

theorem chk2 (b c : Bool) (X : Addr) (w : World) :
    ((((((w.alloc (.cells #[.bool b] 4)).alloc (.cells #[.iface 113 (.pointer (some X))] 46)).alloc (.cells #[.bool c] 4)).alloc (.cells #[.iface 113 (.pointer (some X))] 46)).alloc (.cells #[.func (.func 55) #[] #[.pointer (some ⟨w.heap.size, 0, none⟩), .pointer (some ⟨w.heap.size + 1, 0, none⟩)], .func (.func 55) #[] #[.pointer (some ⟨w.heap.size + 1 + 1, 0, none⟩), .pointer (some ⟨w.heap.size + 1 + 1 + 1, 0, none⟩)]] 58)).drew).cell? ⟨w.heap.size + 1 + 1 + 1 + 1, 0, none⟩ = some (.func (.func 55) #[] #[.pointer (some ⟨w.heap.size, 0, none⟩), .pointer (some ⟨w.heap.size + 1, 0, none⟩)]) ∧
    ((((((w.alloc (.cells #[.bool b] 4)).alloc (.cells #[.iface 113 (.pointer (some X))] 46)).alloc (.cells #[.bool c] 4)).alloc (.cells #[.iface 113 (.pointer (some X))] 46)).alloc (.cells #[.func (.func 55) #[] #[.pointer (some ⟨w.heap.size, 0, none⟩), .pointer (some ⟨w.heap.size + 1, 0, none⟩)], .func (.func 55) #[] #[.pointer (some ⟨w.heap.size + 1 + 1, 0, none⟩), .pointer (some ⟨w.heap.size + 1 + 1 + 1, 0, none⟩)]] 58)).drew).cell? ⟨w.heap.size + 1 + 1 + 1 + 1, 1, none⟩ = some (.func (.func 55) #[] #[.pointer (some ⟨w.heap.size + 1 + 1, 0, none⟩), .pointer (some ⟨w.heap.size + 1 + 1 + 1, 0, none⟩)]) ∧
    ((((((w.alloc (.cells #[.bool b] 4)).alloc (.cells #[.iface 113 (.pointer (some X))] 46)).alloc (.cells #[.bool c] 4)).alloc (.cells #[.iface 113 (.pointer (some X))] 46)).alloc (.cells #[.func (.func 55) #[] #[.pointer (some ⟨w.heap.size, 0, none⟩), .pointer (some ⟨w.heap.size + 1, 0, none⟩)], .func (.func 55) #[] #[.pointer (some ⟨w.heap.size + 1 + 1, 0, none⟩), .pointer (some ⟨w.heap.size + 1 + 1 + 1, 0, none⟩)]] 58)).drew).cell? ⟨w.heap.size, 0, none⟩ = some (.bool b) ∧ ((((((w.alloc (.cells #[.bool b] 4)).alloc (.cells #[.iface 113 (.pointer (some X))] 46)).alloc (.cells #[.bool c] 4)).alloc (.cells #[.iface 113 (.pointer (some X))] 46)).alloc (.cells #[.func (.func 55) #[] #[.pointer (some ⟨w.heap.size, 0, none⟩), .pointer (some ⟨w.heap.size + 1, 0, none⟩)], .func (.func 55) #[] #[.pointer (some ⟨w.heap.size + 1 + 1, 0, none⟩), .pointer (some ⟨w.heap.size + 1 + 1 + 1, 0, none⟩)]] 58)).drew).cell? ⟨w.heap.size + 1, 0, none⟩ = some (.iface 113 (.pointer (some X))) ∧
    ((((((w.alloc (.cells #[.bool b] 4)).alloc (.cells #[.iface 113 (.pointer (some X))] 46)).alloc (.cells #[.bool c] 4)).alloc (.cells #[.iface 113 (.pointer (some X))] 46)).alloc (.cells #[.func (.func 55) #[] #[.pointer (some ⟨w.heap.size, 0, none⟩), .pointer (some ⟨w.heap.size + 1, 0, none⟩)], .func (.func 55) #[] #[.pointer (some ⟨w.heap.size + 1 + 1, 0, none⟩), .pointer (some ⟨w.heap.size + 1 + 1 + 1, 0, none⟩)]] 58)).drew).cell? ⟨w.heap.size + 1 + 1, 0, none⟩ = some (.bool c) ∧ ((((((w.alloc (.cells #[.bool b] 4)).alloc (.cells #[.iface 113 (.pointer (some X))] 46)).alloc (.cells #[.bool c] 4)).alloc (.cells #[.iface 113 (.pointer (some X))] 46)).alloc (.cells #[.func (.func 55) #[] #[.pointer (some ⟨w.heap.size, 0, none⟩), .pointer (some ⟨w.heap.size + 1, 0, none⟩)], .func (.func 55) #[] #[.pointer (some ⟨w.heap.size + 1 + 1, 0, none⟩), .pointer (some ⟨w.heap.size + 1 + 1 + 1, 0, none⟩)]] 58)).drew).cell? ⟨w.heap.size + 1 + 1 + 1, 0, none⟩ = some (.iface 113 (.pointer (some X))) ∧
    Below w.heap.size w ((((((w.alloc (.cells #[.bool b] 4)).alloc (.cells #[.iface 113 (.pointer (some X))] 46)).alloc (.cells #[.bool c] 4)).alloc (.cells #[.iface 113 (.pointer (some X))] 46)).alloc (.cells #[.func (.func 55) #[] #[.pointer (some ⟨w.heap.size, 0, none⟩), .pointer (some ⟨w.heap.size + 1, 0, none⟩)], .func (.func 55) #[] #[.pointer (some ⟨w.heap.size + 1 + 1, 0, none⟩), .pointer (some ⟨w.heap.size + 1 + 1 + 1, 0, none⟩)]] 58)).drew) := by
  generalize h1 : w.alloc (.cells #[.bool b] 4) = w1
  generalize h2 : w1.alloc (.cells #[.iface 113 (.pointer (some X))] 46) = w2
  generalize h3 : w2.alloc (.cells #[.bool c] 4) = w3
  generalize h4 : w3.alloc (.cells #[.iface 113 (.pointer (some X))] 46) = w4
  have s1 : w1.heap.size = w.heap.size + 1 := by rw [← h1]; simp
  have s2 : w2.heap.size = w.heap.size + 1 + 1 := by rw [← h2]; simp [s1]
  have s3 : w3.heap.size = w.heap.size + 1 + 1 + 1 := by rw [← h3]; simp [s2]
  have s4 : w4.heap.size = w.heap.size + 1 + 1 + 1 + 1 := by rw [← h4]; simp [s3]
  have c1 : w1.cell? ⟨w.heap.size, 0, none⟩ = some (.bool b) := by rw [← h1]; exact (Blk.new w _ _).cell rfl
  have c2 : w2.cell? ⟨w.heap.size + 1, 0, none⟩ = some (.iface 113 (.pointer (some X))) := by rw [← h2, ← s1]; exact (Blk.new w1 _ _).cell rfl
  have c3 : w3.cell? ⟨w.heap.size + 1 + 1, 0, none⟩ = some (.bool c) := by rw [← h3, ← s2]; exact (Blk.new w2 _ _).cell rfl
  have c4 : w4.cell? ⟨w.heap.size + 1 + 1 + 1, 0, none⟩ = some (.iface 113 (.pointer (some X))) := by rw [← h4, ← s3]; exact (Blk.new w3 _ _).cell rfl
  have hb : Below w.heap.size w w4 := by rw [← h4, ← h3, ← h2, ← h1]; exact ((((Below.refl _ w).alloc (Nat.le_refl _) _).alloc (by simp) _).alloc (by simp; omega) _).alloc (by simp; omega) _
  have c1' : w4.cell? ⟨w.heap.size, 0, none⟩ = some (.bool b) := by rw [← h4, ← h3, ← h2]; exact cell_al _ (cell_al _ (cell_al _ c1))
  have c2' : w4.cell? ⟨w.heap.size + 1, 0, none⟩ = some (.iface 113 (.pointer (some X))) := by rw [← h4, ← h3]; exact cell_al _ (cell_al _ c2)
  have c3' : w4.cell? ⟨w.heap.size + 1 + 1, 0, none⟩ = some (.bool c) := by rw [← h4]; exact cell_al _ c3
  refine ⟨cell_dr ?_, cell_dr ?_, cell_dr (cell_al _ c1'), cell_dr (cell_al _ c2'), cell_dr (cell_al _ c3'), cell_dr (cell_al _ c4), (hb.alloc (by omega) _).drew⟩
  · rw [← s4]; exact (Blk.new w4 _ _).cell rfl
  · rw [← s4]; exact (Blk.new w4 _ _).cell rfl
theorem r2_yes (X : Addr) (w : World) :
    Calls Tryd.prog 35 #[.slice (some ⟨w.heap.size + 1 + 1 + 1 + 1, 0, none⟩) 2 2] ((((((w.alloc (.cells #[.bool true] 4)).alloc (.cells #[.iface 113 (.pointer (some X))] 46)).alloc (.cells #[.bool true] 4)).alloc (.cells #[.iface 113 (.pointer (some X))] 46)).alloc (.cells #[.func (.func 55) #[] #[.pointer (some ⟨w.heap.size, 0, none⟩), .pointer (some ⟨w.heap.size + 1, 0, none⟩)], .func (.func 55) #[] #[.pointer (some ⟨w.heap.size + 1 + 1, 0, none⟩), .pointer (some ⟨w.heap.size + 1 + 1 + 1, 0, none⟩)]] 58)).drew) fun e w' => e = .returned (.int .i64 0) ∧ (((((w.alloc (.cells #[.bool true] 4)).alloc (.cells #[.iface 113 (.pointer (some X))] 46)).alloc (.cells #[.bool true] 4)).alloc (.cells #[.iface 113 (.pointer (some X))] 46)).alloc (.cells #[.func (.func 55) #[] #[.pointer (some ⟨w.heap.size, 0, none⟩), .pointer (some ⟨w.heap.size + 1, 0, none⟩)], .func (.func 55) #[] #[.pointer (some ⟨w.heap.size + 1 + 1, 0, none⟩), .pointer (some ⟨w.heap.size + 1 + 1 + 1, 0, none⟩)]] 58)).drew = w' :=
  refused2_yes _ _ _ _ _ _ (chk2 true true X w).1 (chk2 true true X w).2.1 (chk2 true true X w).2.2.1 (chk2 true true X w).2.2.2.2.1
theorem r2_no0 (c : Bool) (w : World) (aA aS aR : Addr) (hV : AV w aA aS aR) :
    Calls Tryd.prog 35 #[.slice (some ⟨w.heap.size + 1 + 1 + 1 + 1, 0, none⟩) 2 2] ((((((w.alloc (.cells #[.bool false] 4)).alloc (.cells #[.iface 113 (.pointer (some aA))] 46)).alloc (.cells #[.bool c] 4)).alloc (.cells #[.iface 113 (.pointer (some aA))] 46)).alloc (.cells #[.func (.func 55) #[] #[.pointer (some ⟨w.heap.size, 0, none⟩), .pointer (some ⟨w.heap.size + 1, 0, none⟩)], .func (.func 55) #[] #[.pointer (some ⟨w.heap.size + 1 + 1, 0, none⟩), .pointer (some ⟨w.heap.size + 1 + 1 + 1, 0, none⟩)]] 58)).drew) fun e w' => e = .returned (.int .i64 10) ∧ (((((w.alloc (.cells #[.bool false] 4)).alloc (.cells #[.iface 113 (.pointer (some aA))] 46)).alloc (.cells #[.bool c] 4)).alloc (.cells #[.iface 113 (.pointer (some aA))] 46)).alloc (.cells #[.func (.func 55) #[] #[.pointer (some ⟨w.heap.size, 0, none⟩), .pointer (some ⟨w.heap.size + 1, 0, none⟩)], .func (.func 55) #[] #[.pointer (some ⟨w.heap.size + 1 + 1, 0, none⟩), .pointer (some ⟨w.heap.size + 1 + 1 + 1, 0, none⟩)]] 58)).drew = w' :=
  refused2_no0 _ _ _ _ _ aA aS aR _ (hV.below (chk2 false c aA w).2.2.2.2.2.2) (chk2 false c aA w).1 (chk2 false c aA w).2.1 (chk2 false c aA w).2.2.1 (chk2 false c aA w).2.2.2.1
theorem r2_no1 (w : World) (aA aS aR : Addr) (hV : AV w aA aS aR) :
    Calls Tryd.prog 35 #[.slice (some ⟨w.heap.size + 1 + 1 + 1 + 1, 0, none⟩) 2 2] ((((((w.alloc (.cells #[.bool true] 4)).alloc (.cells #[.iface 113 (.pointer (some aA))] 46)).alloc (.cells #[.bool false] 4)).alloc (.cells #[.iface 113 (.pointer (some aA))] 46)).alloc (.cells #[.func (.func 55) #[] #[.pointer (some ⟨w.heap.size, 0, none⟩), .pointer (some ⟨w.heap.size + 1, 0, none⟩)], .func (.func 55) #[] #[.pointer (some ⟨w.heap.size + 1 + 1, 0, none⟩), .pointer (some ⟨w.heap.size + 1 + 1 + 1, 0, none⟩)]] 58)).drew) fun e w' => e = .returned (.int .i64 10) ∧ (((((w.alloc (.cells #[.bool true] 4)).alloc (.cells #[.iface 113 (.pointer (some aA))] 46)).alloc (.cells #[.bool false] 4)).alloc (.cells #[.iface 113 (.pointer (some aA))] 46)).alloc (.cells #[.func (.func 55) #[] #[.pointer (some ⟨w.heap.size, 0, none⟩), .pointer (some ⟨w.heap.size + 1, 0, none⟩)], .func (.func 55) #[] #[.pointer (some ⟨w.heap.size + 1 + 1, 0, none⟩), .pointer (some ⟨w.heap.size + 1 + 1 + 1, 0, none⟩)]] 58)).drew = w' :=
  refused2_no1 _ _ _ _ _ aA aS aR _ (hV.below (chk2 true false aA w).2.2.2.2.2.2) (chk2 true false aA w).1 (chk2 true false aA w).2.1 (chk2 true false aA w).2.2.1 (chk2 true false aA w).2.2.2.2.1 (chk2 true false aA w).2.2.2.2.2.1
set_option maxRecDepth 100000 in
set_option maxHeartbeats 1000000 in
theorem span_yes (a n : Int) (w : World) (aA aS aR : Addr) (hV : AV w aA aS aR) (hn : 1 ≤ n) (h : 0 ≤ a) (h' : a < 131072) (hl : n ≤ 131072 - a) :
    Calls Tryd.prog 15 #[.int .i64 a, .int .i64 n] w fun e w' => e = .returned (.tuple #[.int .i64 (a / 128), .int .i64 ((a + n - 1) / 128), .int .i64 0]) ∧ Below w.heap.size w w' := by
  have cX := hV.cA.1
  have hd : decide (n ≤ IntKind.i64.wrap (131072 - a)) = true := by rw [IntWalk.i64_in _ (by omega)]; simpa using hl
  go_enter Tryd.func15, Tryd.ntmps15
  go_wp2_with fail
  go_region_held3 (fun w' => w'.cell? ⟨1, 0, none⟩ = some (.iface 113 (.pointer (some aA))))
    (first | (show World.cell? _ _ = _; repeat' (first | exact cX | refine cell_dr ?_ | refine cell_al _ ?_)))
    (first
      | (go_at_call 37; refine (right_yes a _ h h').mono ?_; rintro e w' ⟨rfl, rfl⟩)
      | (go_at_call 36; refine (unless_any _ aA _).mono ?_; rintro e w' ⟨rfl, rfl⟩)
      | (go_at_call 35; refine (r2_yes aA w).mono ?_; rintro e w' ⟨rfl, rfl⟩))
  go_wp2
  go_ret3
  exact ⟨rfl, (chk2 true true aA w).2.2.2.2.2.2⟩
set_option maxRecDepth 100000 in
set_option maxHeartbeats 1000000 in
theorem span_noL (a n : Int) (w : World) (aA aS aR : Addr) (hV : AV w aA aS aR) (hn : 1 ≤ n) (h : 0 ≤ a) (h' : a < 131072) (hl : 131072 - a < n) :
    Calls Tryd.prog 15 #[.int .i64 a, .int .i64 n] w fun e w' => e = .returned (.tuple #[.int .i64 0, .int .i64 0, .int .i64 10]) ∧ Below w.heap.size w w' := by
  have cX := hV.cA.1
  have hd : decide (n ≤ IntKind.i64.wrap (131072 - a)) = false := by rw [IntWalk.i64_in _ (by omega)]; simpa using hl
  go_enter Tryd.func15, Tryd.ntmps15
  go_wp2_with fail
  go_region_held3 (fun w' => w'.cell? ⟨1, 0, none⟩ = some (.iface 113 (.pointer (some aA))))
    (first | (show World.cell? _ _ = _; repeat' (first | exact cX | refine cell_dr ?_ | refine cell_al _ ?_)))
    (first
      | (go_at_call 37; refine (right_yes a _ h h').mono ?_; rintro e w' ⟨rfl, rfl⟩)
      | (go_at_call 36; refine (unless_any _ aA _).mono ?_; rintro e w' ⟨rfl, rfl⟩)
      | (go_at_call 35; refine (r2_no1 w aA aS aR hV).mono ?_; rintro e w' ⟨rfl, rfl⟩))
  go_wp2
  go_ret3
  exact ⟨rfl, (chk2 true false aA w).2.2.2.2.2.2⟩
set_option maxRecDepth 100000 in
set_option maxHeartbeats 1000000 in
theorem span_noA (a n : Int) (w : World) (aA aS aR : Addr) (hV : AV w aA aS aR) (hn : 1 ≤ n) (h : a < 0 ∨ 131072 ≤ a) :
    Calls Tryd.prog 15 #[.int .i64 a, .int .i64 n] w fun e w' => e = .returned (.tuple #[.int .i64 0, .int .i64 0, .int .i64 10]) ∧ Below w.heap.size w w' := by
  have cX := hV.cA.1
  have H := Lib.hid h
  clear h
  go_enter Tryd.func15, Tryd.ntmps15
  go_wp2_with fail
  go_region_held3 (fun w' => w'.cell? ⟨1, 0, none⟩ = some (.iface 113 (.pointer (some aA))))
    (first | (show World.cell? _ _ = _; repeat' (first | exact cX | refine cell_dr ?_ | refine cell_al _ ?_)))
    (first
      | (go_at_call 37; refine (right_no a _ H.out).mono ?_; rintro e w' ⟨rfl, rfl⟩)
      | (go_at_call 36; refine (unless_any _ aA _).mono ?_; rintro e w' ⟨rfl, rfl⟩)
      | (go_at_call 35; refine (r2_no0 _ w aA aS aR hV).mono ?_; rintro e w' ⟨rfl, rfl⟩))
  go_wp2
  go_ret3
  exact ⟨rfl, (chk2 false _ aA w).2.2.2.2.2.2⟩
end Go.Proofs.YtgjhdjfjfmbejaaDoor.Ad
