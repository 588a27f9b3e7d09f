/-
  addr.Join.
-/
import Derived.Test.YtmikkbhillkpkaaDoorAdC
import Derived.Test.YtmikkbhillkpkaaDoorAdX
import Derived.Laws.StructEq
namespace Go.Proofs.YtmikkbhillkpkaaDoor.Ad
open Go.RowKit Go.Lib

theorem sizeE (w : World) : (sizeOf 3).run Tryd.prog w = .ok 1 w := by kernel_rfl
/-- Two places, compared. -/
theorem arr3 (d : Nat) (x y z b l t : Int) (w : World) : (Op.equalIn (d + 1 + 1) 93 (.agg #[.int .i64 x, .int .i64 y, .int .i64 z]) (.agg #[.int .i64 b, .int .i64 l, .int .i64 t])).run Tryd.prog w = .ok ((x == b) && ((y == l) && (z == t))) w := by
  rw [Op.equalIn]
  simp only [Sem.run_bind, run_underlying Tryd.underlying93, Result.andThen_ok, sizeE]
  simp [List.range', go_sem]
  by_cases h1 : x = b <;> by_cases h2 : y = l <;> by_cases h3 : z = t <;> simp [h1, h2, h3]
theorem arr3' (x y z b l t : Int) (w : World) : (Op.equalIn 10000 93 (.agg #[.int .i64 x, .int .i64 y, .int .i64 z]) (.agg #[.int .i64 b, .int .i64 l, .int .i64 t])).run Tryd.prog w = .ok ((x == b) && ((y == l) && (z == t))) w := by
  have h := arr3 9998 x y z b l t w
  simpa only [Nat.reduceAdd] using h
/-- The sum that Join makes, with the wraps that it makes. -/
def joinW (b l t : Int) : Int := wrap64 (wrap64 (wrap64 (wrap64 (b * 4096)) + wrap64 (l * 128)) + wrap64 t)
theorem find_xyz (a x y z : Int) (w : World) (aA aS aR : Addr) (hV : AV w aA aS aR) (h : place3 a = #[.int .i64 x, .int .i64 y, .int .i64 z]) :
    Calls Tryd.prog 52 #[.int .i64 a] w fun e w' => e = .returned (.agg #[.int .i64 x, .int .i64 y, .int .i64 z]) ∧ Below w.heap.size w w' := by
  have := find_any a w aA aS aR hV; rwa [h] at this
theorem pcells (b l t : Int) (w : World) : (w.alloc (.cells #[.int .i64 b, .int .i64 l, .int .i64 t] 93)).cell? ⟨w.heap.size, 0, none⟩ = some (.int .i64 b) ∧
    (w.alloc (.cells #[.int .i64 b, .int .i64 l, .int .i64 t] 93)).cell? ⟨w.heap.size, 1, none⟩ = some (.int .i64 l) ∧ (w.alloc (.cells #[.int .i64 b, .int .i64 l, .int .i64 t] 93)).cell? ⟨w.heap.size, 2, none⟩ = some (.int .i64 t) :=
  ⟨(Blk.new w _ _).cell rfl, (Blk.new w _ _).cell rfl, (Blk.new w _ _).cell rfl⟩
theorem ucells (b : Bool) (X : Addr) (o : Obj) (w : World) : ((((w.alloc o).alloc (.cells #[.bool b] 4)).alloc (.cells #[.iface 118 (.pointer (some X))] 57)).drew).cell? ⟨w.heap.size + 1, 0, none⟩ = some (.bool b) ∧ ((((w.alloc o).alloc (.cells #[.bool b] 4)).alloc (.cells #[.iface 118 (.pointer (some X))] 57)).drew).cell? ⟨w.heap.size + 1 + 1, 0, none⟩ = some (.iface 118 (.pointer (some X))) ∧ Below w.heap.size w ((((w.alloc o).alloc (.cells #[.bool b] 4)).alloc (.cells #[.iface 118 (.pointer (some X))] 57)).drew) := by
  generalize h1 : w.alloc o = w1
  generalize h2 : w1.alloc (.cells #[.bool b] 4) = w2
  have s1 : w1.heap.size = w.heap.size + 1 := by rw [← h1]; simp
  have s2 : w2.heap.size = w.heap.size + 1 + 1 := by rw [← h2]; simp [s1]
  have c2 : w2.cell? ⟨w.heap.size + 1, 0, none⟩ = some (.bool b) := by rw [← h2, ← s1]; exact (Blk.new w1 _ _).cell rfl
  refine ⟨cell_dr (cell_al _ c2), cell_dr ?_, Below.drew (Below.alloc ?_ (by omega) _)⟩
  · rw [← s2]; exact (Blk.new w2 _ _).cell rfl
  · rw [← h2, ← h1]; exact ((Below.refl _ w).alloc (Nat.le_refl _) _).alloc (by simp) _
theorem chkJ (b c : Bool) (p q : Nat) (X : Addr) (w : World) (h1 : w.cell? ⟨p, 0, none⟩ = some (.bool b)) (h2 : w.cell? ⟨q, 0, none⟩ = some (.iface 118 (.pointer (some X)))) :
    (((w.alloc (.cells #[.bool c] 4)).alloc (.cells #[.iface 118 (.pointer (some X))] 57)).alloc (.cells #[.func (.func 57) #[] #[.pointer (some ⟨p, 0, none⟩), .pointer (some ⟨q, 0, none⟩)], .func (.func 57) #[] #[.pointer (some ⟨w.heap.size, 0, none⟩), .pointer (some ⟨w.heap.size + 1, 0, none⟩)]] 95)).cell? ⟨w.heap.size + 1 + 1, 0, none⟩ = some (.func (.func 57) #[] #[.pointer (some ⟨p, 0, none⟩), .pointer (some ⟨q, 0, none⟩)]) ∧
    (((w.alloc (.cells #[.bool c] 4)).alloc (.cells #[.iface 118 (.pointer (some X))] 57)).alloc (.cells #[.func (.func 57) #[] #[.pointer (some ⟨p, 0, none⟩), .pointer (some ⟨q, 0, none⟩)], .func (.func 57) #[] #[.pointer (some ⟨w.heap.size, 0, none⟩), .pointer (some ⟨w.heap.size + 1, 0, none⟩)]] 95)).cell? ⟨w.heap.size + 1 + 1, 1, none⟩ = some (.func (.func 57) #[] #[.pointer (some ⟨w.heap.size, 0, none⟩), .pointer (some ⟨w.heap.size + 1, 0, none⟩)]) ∧
    (((w.alloc (.cells #[.bool c] 4)).alloc (.cells #[.iface 118 (.pointer (some X))] 57)).alloc (.cells #[.func (.func 57) #[] #[.pointer (some ⟨p, 0, none⟩), .pointer (some ⟨q, 0, none⟩)], .func (.func 57) #[] #[.pointer (some ⟨w.heap.size, 0, none⟩), .pointer (some ⟨w.heap.size + 1, 0, none⟩)]] 95)).cell? ⟨p, 0, none⟩ = some (.bool b) ∧ (((w.alloc (.cells #[.bool c] 4)).alloc (.cells #[.iface 118 (.pointer (some X))] 57)).alloc (.cells #[.func (.func 57) #[] #[.pointer (some ⟨p, 0, none⟩), .pointer (some ⟨q, 0, none⟩)], .func (.func 57) #[] #[.pointer (some ⟨w.heap.size, 0, none⟩), .pointer (some ⟨w.heap.size + 1, 0, none⟩)]] 95)).cell? ⟨q, 0, none⟩ = some (.iface 118 (.pointer (some X))) ∧
    (((w.alloc (.cells #[.bool c] 4)).alloc (.cells #[.iface 118 (.pointer (some X))] 57)).alloc (.cells #[.func (.func 57) #[] #[.pointer (some ⟨p, 0, none⟩), .pointer (some ⟨q, 0, none⟩)], .func (.func 57) #[] #[.pointer (some ⟨w.heap.size, 0, none⟩), .pointer (some ⟨w.heap.size + 1, 0, none⟩)]] 95)).cell? ⟨w.heap.size, 0, none⟩ = some (.bool c) ∧ (((w.alloc (.cells #[.bool c] 4)).alloc (.cells #[.iface 118 (.pointer (some X))] 57)).alloc (.cells #[.func (.func 57) #[] #[.pointer (some ⟨p, 0, none⟩), .pointer (some ⟨q, 0, none⟩)], .func (.func 57) #[] #[.pointer (some ⟨w.heap.size, 0, none⟩), .pointer (some ⟨w.heap.size + 1, 0, none⟩)]] 95)).cell? ⟨w.heap.size + 1, 0, none⟩ = some (.iface 118 (.pointer (some X))) ∧
    Below w.heap.size w (((w.alloc (.cells #[.bool c] 4)).alloc (.cells #[.iface 118 (.pointer (some X))] 57)).alloc (.cells #[.func (.func 57) #[] #[.pointer (some ⟨p, 0, none⟩), .pointer (some ⟨q, 0, none⟩)], .func (.func 57) #[] #[.pointer (some ⟨w.heap.size, 0, none⟩), .pointer (some ⟨w.heap.size + 1, 0, none⟩)]] 95)) := by
  generalize e1 : w.alloc (.cells #[.bool c] 4) = w1
  generalize e2 : w1.alloc (.cells #[.iface 118 (.pointer (some X))] 57) = w2
  have s1 : w1.heap.size = w.heap.size + 1 := by rw [← e1]; simp
  have s2 : w2.heap.size = w.heap.size + 1 + 1 := by rw [← e2]; simp [s1]
  have c1 : w2.cell? ⟨w.heap.size, 0, none⟩ = some (.bool c) := by rw [← e2]; refine cell_al _ ?_; rw [← e1]; exact (Blk.new w _ _).cell rfl
  have c2 : w2.cell? ⟨w.heap.size + 1, 0, none⟩ = some (.iface 118 (.pointer (some X))) := by rw [← e2, ← s1]; exact (Blk.new w1 _ _).cell rfl
  have hb : Below w.heap.size w w2 := by rw [← e2, ← e1]; exact ((Below.refl _ w).alloc (Nat.le_refl _) _).alloc (by simp) _
  refine ⟨?_, ?_, cell_al _ (cell_below h1 hb), cell_al _ (cell_below h2 hb), cell_al _ c1, cell_al _ c2, hb.alloc (by omega) _⟩
  · rw [← s2]; exact (Blk.new w2 _ _).cell rfl
  · rw [← s2]; exact (Blk.new w2 _ _).cell rfl
theorem jr_yes (p q : Nat) (X : Addr) (w : World) (h1 : w.cell? ⟨p, 0, none⟩ = some (.bool true)) (h2 : w.cell? ⟨q, 0, none⟩ = some (.iface 118 (.pointer (some X)))) :
    Calls Tryd.prog 49 #[.slice (some ⟨w.heap.size + 1 + 1, 0, none⟩) 2 2] (((w.alloc (.cells #[.bool true] 4)).alloc (.cells #[.iface 118 (.pointer (some X))] 57)).alloc (.cells #[.func (.func 57) #[] #[.pointer (some ⟨p, 0, none⟩), .pointer (some ⟨q, 0, none⟩)], .func (.func 57) #[] #[.pointer (some ⟨w.heap.size, 0, none⟩), .pointer (some ⟨w.heap.size + 1, 0, none⟩)]] 95)) fun e w' => e = .returned (.int .i64 0) ∧ ((w.alloc (.cells #[.bool true] 4)).alloc (.cells #[.iface 118 (.pointer (some X))] 57)).alloc (.cells #[.func (.func 57) #[] #[.pointer (some ⟨p, 0, none⟩), .pointer (some ⟨q, 0, none⟩)], .func (.func 57) #[] #[.pointer (some ⟨w.heap.size, 0, none⟩), .pointer (some ⟨w.heap.size + 1, 0, none⟩)]] 95) = w' :=
  let h := chkJ true true p q X w h1 h2
  refused2_yes _ _ _ _ _ _ h.1 h.2.1 h.2.2.1 h.2.2.2.2.1
theorem jr_no0 (c : Bool) (p q : Nat) (aA aS aR : Addr) (w : World) (hV : AV w aA aS aR) (h1 : w.cell? ⟨p, 0, none⟩ = some (.bool false)) (h2 : w.cell? ⟨q, 0, none⟩ = some (.iface 118 (.pointer (some aA)))) :
    Calls Tryd.prog 49 #[.slice (some ⟨w.heap.size + 1 + 1, 0, none⟩) 2 2] (((w.alloc (.cells #[.bool c] 4)).alloc (.cells #[.iface 118 (.pointer (some aA))] 57)).alloc (.cells #[.func (.func 57) #[] #[.pointer (some ⟨p, 0, none⟩), .pointer (some ⟨q, 0, none⟩)], .func (.func 57) #[] #[.pointer (some ⟨w.heap.size, 0, none⟩), .pointer (some ⟨w.heap.size + 1, 0, none⟩)]] 95)) fun e w' => e = .returned (.int .i64 10) ∧ ((w.alloc (.cells #[.bool c] 4)).alloc (.cells #[.iface 118 (.pointer (some aA))] 57)).alloc (.cells #[.func (.func 57) #[] #[.pointer (some ⟨p, 0, none⟩), .pointer (some ⟨q, 0, none⟩)], .func (.func 57) #[] #[.pointer (some ⟨w.heap.size, 0, none⟩), .pointer (some ⟨w.heap.size + 1, 0, none⟩)]] 95) = w' :=
  let h := chkJ false c p q aA w h1 h2
  refused2_no0 _ _ _ _ _ aA aS aR _ (hV.below h.2.2.2.2.2.2) h.1 h.2.1 h.2.2.1 h.2.2.2.1
theorem jr_no1 (p q : Nat) (aA aS aR : Addr) (w : World) (hV : AV w aA aS aR) (h1 : w.cell? ⟨p, 0, none⟩ = some (.bool true)) (h2 : w.cell? ⟨q, 0, none⟩ = some (.iface 118 (.pointer (some aA)))) :
    Calls Tryd.prog 49 #[.slice (some ⟨w.heap.size + 1 + 1, 0, none⟩) 2 2] (((w.alloc (.cells #[.bool false] 4)).alloc (.cells #[.iface 118 (.pointer (some aA))] 57)).alloc (.cells #[.func (.func 57) #[] #[.pointer (some ⟨p, 0, none⟩), .pointer (some ⟨q, 0, none⟩)], .func (.func 57) #[] #[.pointer (some ⟨w.heap.size, 0, none⟩), .pointer (some ⟨w.heap.size + 1, 0, none⟩)]] 95)) fun e w' => e = .returned (.int .i64 10) ∧ ((w.alloc (.cells #[.bool false] 4)).alloc (.cells #[.iface 118 (.pointer (some aA))] 57)).alloc (.cells #[.func (.func 57) #[] #[.pointer (some ⟨p, 0, none⟩), .pointer (some ⟨q, 0, none⟩)], .func (.func 57) #[] #[.pointer (some ⟨w.heap.size, 0, none⟩), .pointer (some ⟨w.heap.size + 1, 0, none⟩)]] 95) = w' :=
  let h := chkJ true false p q aA w h1 h2
  refused2_no1 _ _ _ _ _ aA aS aR _ (hV.below h.2.2.2.2.2.2) h.1 h.2.1 h.2.2.1 h.2.2.2.2.1 h.2.2.2.2.2.1
set_option maxRecDepth 100000 in
set_option maxHeartbeats 400000 in
theorem join_no0 (b l t s x y z : Int) (w : World) (aA aS aR : Addr) (hV : AV w aA aS aR) (hs : joinW b l t = s) (hp : place3 s = #[.int .i64 x, .int .i64 y, .int .i64 z]) (h : s < 0 ∨ 131072 ≤ s) :
    Calls Tryd.prog 36 #[.int .i64 b, .int .i64 l, .int .i64 t] w fun e w' => e = .returned (.tuple #[.int .i64 0, .int .i64 10]) ∧ Below w.heap.size w w' := by
  have cX := hV.cA.1
  have hw0 := hV.w0
  have hw1 := hV.w1
  have hw2 := hV.w2
  have hlt := World.block_lt_of_cell? w _ hw0
  have H := Lib.hid h
  clear h
  have HS := Lib.hid hs
  have HP := Lib.hid hp
  have HV := Lib.hid hV
  clear hs hV hp
  have i0 : ∀ w, (Instr.index 92 (.agg #[.int .i64 4096, .int .i64 128, .int .i64 1]) (.int .i64 0)).run Tryd.prog w = .ok (.int .i64 4096) w := fun _ => by kernel_rfl
  have i1 : ∀ w, (Instr.index 92 (.agg #[.int .i64 4096, .int .i64 128, .int .i64 1]) (.int .i64 1)).run Tryd.prog w = .ok (.int .i64 128) w := fun _ => by kernel_rfl
  have i2 : ∀ w, (Instr.index 92 (.agg #[.int .i64 4096, .int .i64 128, .int .i64 1]) (.int .i64 2)).run Tryd.prog w = .ok (.int .i64 1) w := fun _ => by kernel_rfl
  go_enter Tryd.func36, Tryd.ntmps36
  go_wp2
  refine wp_loop_rounds 4 ?_
  rw [rounds_succ]
  go_wp2
  rw [rounds_succ]
  go_wp2
  rw [rounds_succ]
  go_wp2
  rw [rounds_succ]
  go_wp2
  rw [show wrap64 (wrap64 (wrap64 (wrap64 (b * 4096)) + wrap64 (l * 128)) + wrap64 t) = s from HS.out]
  obtain ⟨p0, p1, p2⟩ := pcells b l t w
  clear hw0 hw1 hw2 hlt i0 i1 i2
  have heq : ∀ W, (Op.equalIn 10000 93 (.agg #[.int .i64 x, .int .i64 y, .int .i64 z]) (.agg #[.int .i64 b, .int .i64 l, .int .i64 t])).run Tryd.prog W = .ok ((x == b) && ((y == l) && (z == t))) W := fun W => arr3' x y z b l t W
  go_region_held3 (fun w' => w'.cell? ⟨6, 0, none⟩ = some (.iface 118 (.pointer (some aA))) ∧ w'.cell? ⟨w.heap.size, 0, none⟩ = some (.int .i64 b) ∧ w'.cell? ⟨w.heap.size, 1, none⟩ = some (.int .i64 l) ∧ w'.cell? ⟨w.heap.size, 2, none⟩ = some (.int .i64 t))
    (first | (refine ⟨?_, ?_, ?_, ?_⟩ <;> (show World.cell? _ _ = _; repeat' (with_reducible first | exact cX | exact p0 | exact p1 | exact p2 | refine cell_below ?_ hbF | refine cell_dr ?_ | refine cell_al _ ?_))))
    (first
      | (go_at_call 51; ((with_reducible refine (right_no s _ H.out).mono ?_)); rintro e w' ⟨rfl, rfl⟩)
      | (go_at_call 50; ((with_reducible refine (unless_any _ aA _).mono ?_)); rintro e w' ⟨rfl, rfl⟩)
      | (go_at_call 52; ((with_reducible refine (find_xyz s x y z _ aA aS aR ?_ HP.out).mono ?_)); (refine HV.out.below ?_; (repeat' (with_reducible first | exact Below.refl _ _ | refine Below.drew ?_ | refine Below.alloc ?_ ?_ _)) <;> (simp; try omega)); rintro e w' ⟨rfl, hbF⟩; have q0 := cell_below (ucells false aA _ w).1 hbF; have q1 := cell_below (ucells false aA _ w).2.1 hbF; have HB := Lib.hid (bstep (ucells false aA _ w).2.2 hbF))
      | (go_at_call 49; ((with_reducible refine (jr_no0 _ _ _ aA aS aR _ (HV.out.below HB.out) q0 q1).mono ?_)); rintro e w' ⟨rfl, rfl⟩))
  clear heq
  go_wp2
  go_ret2
  exact ⟨rfl, bstep HB.out (chkJ false _ _ _ aA _ q0 q1).2.2.2.2.2.2⟩
set_option maxRecDepth 100000 in
set_option maxHeartbeats 400000 in
theorem join_no1 (b l t s x y z : Int) (w : World) (aA aS aR : Addr) (hV : AV w aA aS aR) (hs : joinW b l t = s) (hp : place3 s = #[.int .i64 x, .int .i64 y, .int .i64 z]) (h : 0 ≤ s) (h' : s < 131072) (he : ((x == b) && ((y == l) && (z == t))) = false) :
    Calls Tryd.prog 36 #[.int .i64 b, .int .i64 l, .int .i64 t] w fun e w' => e = .returned (.tuple #[.int .i64 0, .int .i64 10]) ∧ Below w.heap.size w w' := by
  have cX := hV.cA.1
  have hw0 := hV.w0
  have hw1 := hV.w1
  have hw2 := hV.w2
  have hlt := World.block_lt_of_cell? w _ hw0
  have HE := Lib.hid he
  clear he
  have HS := Lib.hid hs
  have HP := Lib.hid hp
  have HV := Lib.hid hV
  clear hs hV hp
  have i0 : ∀ w, (Instr.index 92 (.agg #[.int .i64 4096, .int .i64 128, .int .i64 1]) (.int .i64 0)).run Tryd.prog w = .ok (.int .i64 4096) w := fun _ => by kernel_rfl
  have i1 : ∀ w, (Instr.index 92 (.agg #[.int .i64 4096, .int .i64 128, .int .i64 1]) (.int .i64 1)).run Tryd.prog w = .ok (.int .i64 128) w := fun _ => by kernel_rfl
  have i2 : ∀ w, (Instr.index 92 (.agg #[.int .i64 4096, .int .i64 128, .int .i64 1]) (.int .i64 2)).run Tryd.prog w = .ok (.int .i64 1) w := fun _ => by kernel_rfl
  go_enter Tryd.func36, Tryd.ntmps36
  go_wp2
  refine wp_loop_rounds 4 ?_
  rw [rounds_succ]
  go_wp2
  rw [rounds_succ]
  go_wp2
  rw [rounds_succ]
  go_wp2
  rw [rounds_succ]
  go_wp2
  rw [show wrap64 (wrap64 (wrap64 (wrap64 (b * 4096)) + wrap64 (l * 128)) + wrap64 t) = s from HS.out]
  obtain ⟨p0, p1, p2⟩ := pcells b l t w
  clear hw0 hw1 hw2 hlt i0 i1 i2
  have heq : ∀ W, (Op.equalIn 10000 93 (.agg #[.int .i64 x, .int .i64 y, .int .i64 z]) (.agg #[.int .i64 b, .int .i64 l, .int .i64 t])).run Tryd.prog W = .ok false W := fun W => by rw [arr3', HE.out]
  go_region_held3 (fun w' => w'.cell? ⟨6, 0, none⟩ = some (.iface 118 (.pointer (some aA))) ∧ w'.cell? ⟨w.heap.size, 0, none⟩ = some (.int .i64 b) ∧ w'.cell? ⟨w.heap.size, 1, none⟩ = some (.int .i64 l) ∧ w'.cell? ⟨w.heap.size, 2, none⟩ = some (.int .i64 t))
    (first | (refine ⟨?_, ?_, ?_, ?_⟩ <;> (show World.cell? _ _ = _; repeat' (with_reducible first | exact cX | exact p0 | exact p1 | exact p2 | refine cell_below ?_ hbF | refine cell_dr ?_ | refine cell_al _ ?_))))
    (first
      | (go_at_call 51; ((with_reducible refine (right_yes s _ h h').mono ?_)); rintro e w' ⟨rfl, rfl⟩)
      | (go_at_call 50; ((with_reducible refine (unless_any _ aA _).mono ?_)); rintro e w' ⟨rfl, rfl⟩)
      | (go_at_call 52; ((with_reducible refine (find_xyz s x y z _ aA aS aR ?_ HP.out).mono ?_)); (refine HV.out.below ?_; (repeat' (with_reducible first | exact Below.refl _ _ | refine Below.drew ?_ | refine Below.alloc ?_ ?_ _)) <;> (simp; try omega)); rintro e w' ⟨rfl, hbF⟩; have q0 := cell_below (ucells true aA _ w).1 hbF; have q1 := cell_below (ucells true aA _ w).2.1 hbF; have HB := Lib.hid (bstep (ucells true aA _ w).2.2 hbF))
      | (go_at_call 49; ((with_reducible refine (jr_no1 _ _ aA aS aR _ (HV.out.below HB.out) q0 q1).mono ?_)); rintro e w' ⟨rfl, rfl⟩))
  clear heq
  go_wp2
  go_ret2
  exact ⟨rfl, bstep HB.out (chkJ true false _ _ aA _ q0 q1).2.2.2.2.2.2⟩
set_option maxRecDepth 100000 in
set_option maxHeartbeats 400000 in
theorem join_yes (b l t s x y z : Int) (w : World) (aA aS aR : Addr) (hV : AV w aA aS aR) (hs : joinW b l t = s) (hp : place3 s = #[.int .i64 x, .int .i64 y, .int .i64 z]) (h : 0 ≤ s) (h' : s < 131072) (he : ((x == b) && ((y == l) && (z == t))) = true) :
    Calls Tryd.prog 36 #[.int .i64 b, .int .i64 l, .int .i64 t] w fun e w' => e = .returned (.tuple #[.int .i64 s, .int .i64 0]) ∧ Below w.heap.size w w' := by
  have cX := hV.cA.1
  have hw0 := hV.w0
  have hw1 := hV.w1
  have hw2 := hV.w2
  have hlt := World.block_lt_of_cell? w _ hw0
  have HE := Lib.hid he
  clear he
  have HS := Lib.hid hs
  have HP := Lib.hid hp
  have HV := Lib.hid hV
  clear hs hV hp
  have i0 : ∀ w, (Instr.index 92 (.agg #[.int .i64 4096, .int .i64 128, .int .i64 1]) (.int .i64 0)).run Tryd.prog w = .ok (.int .i64 4096) w := fun _ => by kernel_rfl
  have i1 : ∀ w, (Instr.index 92 (.agg #[.int .i64 4096, .int .i64 128, .int .i64 1]) (.int .i64 1)).run Tryd.prog w = .ok (.int .i64 128) w := fun _ => by kernel_rfl
  have i2 : ∀ w, (Instr.index 92 (.agg #[.int .i64 4096, .int .i64 128, .int .i64 1]) (.int .i64 2)).run Tryd.prog w = .ok (.int .i64 1) w := fun _ => by kernel_rfl
  go_enter Tryd.func36, Tryd.ntmps36
  go_wp2
  refine wp_loop_rounds 4 ?_
  rw [rounds_succ]
  go_wp2
  rw [rounds_succ]
  go_wp2
  rw [rounds_succ]
  go_wp2
  rw [rounds_succ]
  go_wp2
  rw [show wrap64 (wrap64 (wrap64 (wrap64 (b * 4096)) + wrap64 (l * 128)) + wrap64 t) = s from HS.out]
  obtain ⟨p0, p1, p2⟩ := pcells b l t w
  clear hw0 hw1 hw2 hlt i0 i1 i2
  have heq : ∀ W, (Op.equalIn 10000 93 (.agg #[.int .i64 x, .int .i64 y, .int .i64 z]) (.agg #[.int .i64 b, .int .i64 l, .int .i64 t])).run Tryd.prog W = .ok true W := fun W => by rw [arr3', HE.out]
  go_region_held3 (fun w' => w'.cell? ⟨6, 0, none⟩ = some (.iface 118 (.pointer (some aA))) ∧ w'.cell? ⟨w.heap.size, 0, none⟩ = some (.int .i64 b) ∧ w'.cell? ⟨w.heap.size, 1, none⟩ = some (.int .i64 l) ∧ w'.cell? ⟨w.heap.size, 2, none⟩ = some (.int .i64 t))
    (first | (refine ⟨?_, ?_, ?_, ?_⟩ <;> (show World.cell? _ _ = _; repeat' (with_reducible first | exact cX | exact p0 | exact p1 | exact p2 | refine cell_below ?_ hbF | refine cell_dr ?_ | refine cell_al _ ?_))))
    (first
      | (go_at_call 51; ((with_reducible refine (right_yes s _ h h').mono ?_)); rintro e w' ⟨rfl, rfl⟩)
      | (go_at_call 50; ((with_reducible refine (unless_any _ aA _).mono ?_)); rintro e w' ⟨rfl, rfl⟩)
      | (go_at_call 52; ((with_reducible refine (find_xyz s x y z _ aA aS aR ?_ HP.out).mono ?_)); (refine HV.out.below ?_; (repeat' (with_reducible first | exact Below.refl _ _ | refine Below.drew ?_ | refine Below.alloc ?_ ?_ _)) <;> (simp; try omega)); rintro e w' ⟨rfl, hbF⟩; have q0 := cell_below (ucells true aA _ w).1 hbF; have q1 := cell_below (ucells true aA _ w).2.1 hbF; have HB := Lib.hid (bstep (ucells true aA _ w).2.2 hbF))
      | (go_at_call 49; ((with_reducible refine (jr_yes _ _ aA _ q0 q1).mono ?_)); rintro e w' ⟨rfl, rfl⟩))
  clear heq
  go_wp2
  go_ret2
  exact ⟨rfl, bstep HB.out (chkJ true true _ _ aA _ q0 q1).2.2.2.2.2.2⟩
end Go.Proofs.YtmikkbhillkpkaaDoor.Ad
