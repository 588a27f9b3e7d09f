/-
  bump: cursors, plain; must, inBlock, None, Right, Room.
-/
import Derived.Test.YtanccoahpcfbnaaDoorAdK
import Derived.Test.YtanccoahpcfbnaaDoorGenB
import Derived.Laws.StructEq
import Derived.Deep.QuietTactic
import Derived.Deep.RegionHeld3
import Derived.BigQuiet
import Derived.IntWalk
namespace Go.Proofs.YtanccoahpcfbnaaDoor
open Go.RowKit Go.Lib Go.Shelf Ad
attribute [local go_sem] Oper.semAt_some

/-- A cursor that is in a block, as it must be. -/
def inBk (B A L : Int) : Prop := 0 ≤ B ∧ B < 32 ∧ A % 8 = 0 ∧ L % 8 = 0 ∧ 4096 * B ≤ A ∧ A ≤ L ∧ L ≤ 4096 * B + 4096
instance (B A L : Int) : Decidable (inBk B A L) := by unfold inBk; infer_instance
/-- The cursor that is none. -/
def isNo (B A L : Int) : Prop := B = -1 ∧ A = 0 ∧ L = 0
instance (B A L : Int) : Decidable (isNo B A L) := by unfold isNo; infer_instance
def rightC (B A L : Int) : Prop := isNo B A L ∨ inBk B A L
instance (B A L : Int) : Decidable (rightC B A L) := by unfold rightC; infer_instance
def roomC (B A L : Int) : Int := if rightC B A L then L - A else 0
theorem tm8 (f : Int) : f.tmod 8 = 0 ↔ f % 8 = 0 := ⟨fun h => Int.emod_eq_zero_of_dvd (Int.dvd_of_tmod_eq_zero h), fun h => Int.tmod_eq_zero_of_dvd (Int.dvd_of_emod_eq_zero h)⟩
theorem tm8_in (f : Int) : IntKind.i64.wrap (f.tmod 8) = f.tmod 8 := by
  have h1 := Int.tmod_lt_of_pos f (show (0 : Int) < 8 by omega)
  have h2 := Int.lt_tmod_of_pos f (show (0 : Int) < 8 by omega)
  exact IntWalk.i64_in _ (by omega)
theorem inb_eq (B A L : Int) (h0 : 0 ≤ B) (h1 : B < 32) : ((A.tmod 8 == 0) && ((L.tmod 8 == 0) && (decide (B * 4096 ≤ A) && (decide (A ≤ L) && decide (L ≤ B * 4096 + 4096))))) = decide (inBk B A L) := by
  rw [Bool.eq_iff_iff]
  simp only [Bool.and_eq_true, beq_iff_eq, decide_eq_true_eq, tm8]
  unfold inBk
  constructor
  · rintro ⟨a, b, c, d, e⟩
    exact ⟨h0, h1, a, b, by omega, d, by omega⟩
  · rintro ⟨_, _, a, b, c, d, e⟩
    exact ⟨a, b, by omega, d, by omega⟩

theorem must5 (D : Nat) (a b c d f : Bool) (w : World) (hD : Blk w D #[.bool a, .bool b, .bool c, .bool d, .bool f] 4) :
    Calls Tryd.prog 32 #[.slice (some ⟨D, 0, none⟩) 5 5] w fun e w' => e = .returned (.bool (a && (b && (c && (d && (f)))))) ∧ w = w' := by
  have c0 : w.cell? ⟨D, 0, none⟩ = some (.bool a) := hD.cell rfl
  have c1 : w.cell? ⟨D, 1, none⟩ = some (.bool b) := hD.cell rfl
  have c2 : w.cell? ⟨D, 2, none⟩ = some (.bool c) := hD.cell rfl
  have c3 : w.cell? ⟨D, 3, none⟩ = some (.bool d) := hD.cell rfl
  have c4 : w.cell? ⟨D, 4, none⟩ = some (.bool f) := hD.cell rfl
  clear hD
  cases a
  · go_enter Tryd.func32, Tryd.ntmps32
    go_wp2
    refine wp_loop_rounds 6 ?_
    repeat (rw [rounds_succ]; go_wp2)
    go_ret
    exact ⟨rfl, rfl⟩
  cases b
  · go_enter Tryd.func32, Tryd.ntmps32
    go_wp2
    refine wp_loop_rounds 6 ?_
    repeat (rw [rounds_succ]; go_wp2)
    go_ret
    exact ⟨rfl, rfl⟩
  cases c
  · go_enter Tryd.func32, Tryd.ntmps32
    go_wp2
    refine wp_loop_rounds 6 ?_
    repeat (rw [rounds_succ]; go_wp2)
    go_ret
    exact ⟨rfl, rfl⟩
  cases d
  · go_enter Tryd.func32, Tryd.ntmps32
    go_wp2
    refine wp_loop_rounds 6 ?_
    repeat (rw [rounds_succ]; go_wp2)
    go_ret
    exact ⟨rfl, rfl⟩
  cases f
  all_goals go_enter Tryd.func32, Tryd.ntmps32
  all_goals go_wp2
  all_goals refine wp_loop_rounds 6 ?_
  all_goals repeat (rw [rounds_succ]; go_wp2)
  all_goals go_ret
  all_goals exact ⟨rfl, rfl⟩
theorem must2 (D : Nat) (a b : Bool) (w : World) (hD : Blk w D #[.bool a, .bool b] 4) :
    Calls Tryd.prog 32 #[.slice (some ⟨D, 0, none⟩) 2 2] w fun e w' => e = .returned (.bool (a && (b))) ∧ w = w' := by
  have c0 : w.cell? ⟨D, 0, none⟩ = some (.bool a) := hD.cell rfl
  have c1 : w.cell? ⟨D, 1, none⟩ = some (.bool b) := hD.cell rfl
  clear hD
  cases a
  · go_enter Tryd.func32, Tryd.ntmps32
    go_wp2
    refine wp_loop_rounds 6 ?_
    repeat (rw [rounds_succ]; go_wp2)
    go_ret
    exact ⟨rfl, rfl⟩
  cases b
  all_goals go_enter Tryd.func32, Tryd.ntmps32
  all_goals go_wp2
  all_goals refine wp_loop_rounds 6 ?_
  all_goals repeat (rw [rounds_succ]; go_wp2)
  all_goals go_ret
  all_goals exact ⟨rfl, rfl⟩

theorem inBlock_out (T : Nat) (B A L : Int) (w : World) (c0 : w.cell? ⟨T, 0, none⟩ = some (.int .i64 B)) (h : B < 0 ∨ 32 ≤ B) :
    Calls Tryd.prog 34 #[.pointer (some ⟨T, 0, none⟩)] w fun e w' => e = .returned (.bool (decide (inBk B A L))) ∧ Below w.heap.size w w' := by
  have hn : decide (inBk B A L) = false := decide_eq_false (by unfold inBk; omega)
  rw [hn]
  clear hn
  by_cases h1 : B < 0
  · clear h
    go_enter Tryd.func34, Tryd.ntmps34
    go_wp2
    go_ret
    exact ⟨rfl, Below.refl _ _⟩
  · have h2 : 32 ≤ B := by omega
    clear h
    go_enter Tryd.func34, Tryd.ntmps34
    go_wp2
    go_ret
    exact ⟨rfl, Below.refl _ _⟩
set_option maxRecDepth 100000 in
set_option maxHeartbeats 1000000 in
theorem inBlock_in (T : Nat) (B A L : Int) (w : World) (c0 : w.cell? ⟨T, 0, none⟩ = some (.int .i64 B)) (c1 : w.cell? ⟨T, 1, none⟩ = some (.int .i64 A)) (c2 : w.cell? ⟨T, 2, none⟩ = some (.int .i64 L)) (h0 : 0 ≤ B) (h1 : B < 32) :
    Calls Tryd.prog 34 #[.pointer (some ⟨T, 0, none⟩)] w fun e w' => e = .returned (.bool (decide (inBk B A L))) ∧ Below w.heap.size w w' := by
  rw [← inb_eq B A L h0 h1]
  have e1 := tm8_in A
  have e2 := tm8_in L
  have e3 : IntKind.i64.wrap (B * 4096) = B * 4096 := IntWalk.i64_in _ (by omega)
  have e4 : IntKind.i64.wrap (B * 4096 + 4096) = B * 4096 + 4096 := IntWalk.i64_in _ (by omega)
  go_enter Tryd.func34, Tryd.ntmps34
  go_wp2
  go_region_held3 (fun w' => w'.cell? ⟨T, 1, none⟩ = some (.int .i64 A) ∧ w'.cell? ⟨T, 2, none⟩ = some (.int .i64 L))
    (first | (refine ⟨?_, ?_⟩ <;> (show World.cell? _ _ = _; repeat' (with_reducible first | exact c1 | exact c2 | refine cell_dr ?_ | refine cell_al _ ?_))))
    (first
      | (go_at_call 32; ((with_reducible refine (must5 _ _ _ _ _ _ _ (Blk.drew (Blk.new _ _ _))).mono ?_)); rintro e w' ⟨rfl, rfl⟩))
  go_wp2
  go_ret
  exact ⟨rfl, ((Below.refl _ _).alloc (Nat.le_refl _) _).drew⟩
theorem inBlock_any (T : Nat) (B A L : Int) (w : World) (c0 : w.cell? ⟨T, 0, none⟩ = some (.int .i64 B)) (c1 : w.cell? ⟨T, 1, none⟩ = some (.int .i64 A)) (c2 : w.cell? ⟨T, 2, none⟩ = some (.int .i64 L)) :
    Calls Tryd.prog 34 #[.pointer (some ⟨T, 0, none⟩)] w fun e w' => e = .returned (.bool (decide (inBk B A L))) ∧ Below w.heap.size w w' := by
  by_cases h : B < 0 ∨ 32 ≤ B
  · exact inBlock_out T B A L w c0 h
  · exact inBlock_in T B A L w c0 c1 c2 (by omega) (by omega)

theorem none_any (w : World) :
    Calls Tryd.prog 16 #[] w fun e w' => e = .returned (.agg #[.int .i64 (-1), .int .i64 0, .int .i64 0]) ∧ w.alloc (.cells #[.int .i64 (-1), .int .i64 0, .int .i64 0] 23) = w' := by
  go_enter Tryd.func16, Tryd.ntmps16
  go_wp2
  exact bodyPost_ret (v := .agg #[.int .i64 (-1), .int .i64 0, .int .i64 0]) (by simp [results, Tryd.results16, go_sem]) rfl ⟨rfl, rfl⟩
theorem cur_eq (a b c x y z : Int) (W : World) : (Op.equalIn 10000 23 (.agg #[.int .i64 a, .int .i64 b, .int .i64 c]) (.agg #[.int .i64 x, .int .i64 y, .int .i64 z])).run Tryd.prog W = .ok ((a == x) && ((b == y) && (c == z))) W := by
  by_cases h1 : a = x
  · have b1 : (a == x) = true := by simpa using h1
    rw [b1]
    by_cases h2 : b = y
    · have b2 : (b == y) = true := by simpa using h2
      rw [b2]
      by_cases h3 : c = z
      · have b3 : (c == z) = true := by simpa using h3
        rw [b3]
        go_simp
      · have b3 : (c == z) = false := by simpa using h3
        rw [b3]
        go_simp
    · have b2 : (b == y) = false := by simpa using h2
      rw [b2]
      go_simp
  · have b1 : (a == x) = false := by simpa using h1
    rw [b1]
    go_simp

set_option maxRecDepth 100000 in
set_option maxHeartbeats 1000000 in
theorem right_is (B A L : Int) (w : World) (h : isNo B A L) :
    Calls Tryd.prog 12 #[.agg #[.int .i64 B, .int .i64 A, .int .i64 L]] w fun e w' => e = .returned (.bool true) ∧ Below w.heap.size w w' := by
  obtain ⟨rfl, rfl, rfl⟩ := h
  obtain ⟨b0, b1, hB, hs⟩ := blk2 w #[.int .i64 (-1), .int .i64 0, .int .i64 0] #[.int .i64 (-1), .int .i64 0, .int .i64 0, .slice none 0 0] 23 56
  have c0 : ((w.alloc (.cells #[.int .i64 (-1), .int .i64 0, .int .i64 0] 23)).alloc (.cells #[.int .i64 (-1), .int .i64 0, .int .i64 0, .slice none 0 0] 56)).cell? ⟨w.heap.size, 0, none⟩ = some (.int .i64 (-1)) := b0.cell rfl
  have c1 : ((w.alloc (.cells #[.int .i64 (-1), .int .i64 0, .int .i64 0] 23)).alloc (.cells #[.int .i64 (-1), .int .i64 0, .int .i64 0, .slice none 0 0] 56)).cell? ⟨w.heap.size, 1, none⟩ = some (.int .i64 0) := b0.cell rfl
  have c2 : ((w.alloc (.cells #[.int .i64 (-1), .int .i64 0, .int .i64 0] 23)).alloc (.cells #[.int .i64 (-1), .int .i64 0, .int .i64 0, .slice none 0 0] 56)).cell? ⟨w.heap.size, 2, none⟩ = some (.int .i64 0) := b0.cell rfl
  have heq := cur_eq (-1) 0 0 (-1) 0 0
  simp only [beq_self_eq_true, Bool.and_self] at heq
  have HB := Lib.hid hB
  clear b0 b1 hB hs
  go_enter Tryd.func12, Tryd.ntmps12
  go_wp2
  generalize ((w.alloc (.cells #[.int .i64 (-1), .int .i64 0, .int .i64 0] 23)).alloc (.cells #[.int .i64 (-1), .int .i64 0, .int .i64 0, .slice none 0 0] 56)) = W1 at c0 c1 c2 HB ⊢
  go_region_held3 (fun w' => w'.cell? ⟨w.heap.size, 0, none⟩ = some (.int .i64 (-1)) ∧ w'.cell? ⟨w.heap.size, 1, none⟩ = some (.int .i64 0) ∧ w'.cell? ⟨w.heap.size, 2, none⟩ = some (.int .i64 0))
    (with_reducible first | exact ⟨c0, c1, c2⟩ | exact ⟨cell_dr c0, cell_dr c1, cell_dr c2⟩ | exact ⟨cell_al _ (cell_dr c0), cell_al _ (cell_dr c1), cell_al _ (cell_dr c2)⟩ | exact ⟨cell_dr (cell_al _ c0), cell_dr (cell_al _ c1), cell_dr (cell_al _ c2)⟩)
    (first
      | (go_at_call 16; ((with_reducible refine (none_any _).mono ?_)); rintro e w' ⟨rfl, rfl⟩))
  go_wp2
  go_ret
  exact ⟨rfl, ((HB.out.alloc HB.out.size _).drew)⟩
set_option maxRecDepth 100000 in
set_option maxHeartbeats 1000000 in
theorem right_not (B A L : Int) (w : World) (h : ¬ isNo B A L) :
    Calls Tryd.prog 12 #[.agg #[.int .i64 B, .int .i64 A, .int .i64 L]] w fun e w' => e = .returned (.bool (decide (inBk B A L))) ∧ Below w.heap.size w w' := by
  obtain ⟨b0, b1, hB, hs⟩ := blk2 w #[.int .i64 B, .int .i64 A, .int .i64 L] #[.int .i64 B, .int .i64 A, .int .i64 L, .slice none 0 0] 23 56
  have c0 : ((w.alloc (.cells #[.int .i64 B, .int .i64 A, .int .i64 L] 23)).alloc (.cells #[.int .i64 B, .int .i64 A, .int .i64 L, .slice none 0 0] 56)).cell? ⟨w.heap.size, 0, none⟩ = some (.int .i64 B) := b0.cell rfl
  have c1 : ((w.alloc (.cells #[.int .i64 B, .int .i64 A, .int .i64 L] 23)).alloc (.cells #[.int .i64 B, .int .i64 A, .int .i64 L, .slice none 0 0] 56)).cell? ⟨w.heap.size, 1, none⟩ = some (.int .i64 A) := b0.cell rfl
  have c2 : ((w.alloc (.cells #[.int .i64 B, .int .i64 A, .int .i64 L] 23)).alloc (.cells #[.int .i64 B, .int .i64 A, .int .i64 L, .slice none 0 0] 56)).cell? ⟨w.heap.size, 2, none⟩ = some (.int .i64 L) := b0.cell rfl
  have d0 : ((w.alloc (.cells #[.int .i64 B, .int .i64 A, .int .i64 L] 23)).alloc (.cells #[.int .i64 B, .int .i64 A, .int .i64 L, .slice none 0 0] 56)).cell? ⟨w.heap.size + 1, 0, none⟩ = some (.int .i64 B) := b1.cell rfl
  have d1 : ((w.alloc (.cells #[.int .i64 B, .int .i64 A, .int .i64 L] 23)).alloc (.cells #[.int .i64 B, .int .i64 A, .int .i64 L, .slice none 0 0] 56)).cell? ⟨w.heap.size + 1, 1, none⟩ = some (.int .i64 A) := b1.cell rfl
  have d2 : ((w.alloc (.cells #[.int .i64 B, .int .i64 A, .int .i64 L] 23)).alloc (.cells #[.int .i64 B, .int .i64 A, .int .i64 L, .slice none 0 0] 56)).cell? ⟨w.heap.size + 1, 2, none⟩ = some (.int .i64 L) := b1.cell rfl
  have D0 := Lib.hid d0
  have D1 := Lib.hid d1
  have D2 := Lib.hid d2
  have heq := cur_eq B A L (-1) 0 0
  have hf : ((B == -1) && ((A == 0) && (L == 0))) = false := by
    rw [Bool.eq_false_iff]
    intro e
    simp only [Bool.and_eq_true, beq_iff_eq] at e
    exact h e
  rw [hf] at heq
  have HB := Lib.hid hB
  clear b0 b1 hB hs hf h d0 d1 d2
  go_enter Tryd.func12, Tryd.ntmps12
  go_wp2
  generalize ((w.alloc (.cells #[.int .i64 B, .int .i64 A, .int .i64 L] 23)).alloc (.cells #[.int .i64 B, .int .i64 A, .int .i64 L, .slice none 0 0] 56)) = W1 at c0 c1 c2 HB D0 D1 D2 ⊢
  go_region_held3 (fun w' => w'.cell? ⟨w.heap.size, 0, none⟩ = some (.int .i64 B) ∧ w'.cell? ⟨w.heap.size, 1, none⟩ = some (.int .i64 A) ∧ w'.cell? ⟨w.heap.size, 2, none⟩ = some (.int .i64 L))
    (with_reducible first | exact ⟨c0, c1, c2⟩ | exact ⟨cell_dr c0, cell_dr c1, cell_dr c2⟩ | exact ⟨cell_al _ (cell_dr c0), cell_al _ (cell_dr c1), cell_al _ (cell_dr c2)⟩ | exact ⟨cell_dr (cell_al _ c0), cell_dr (cell_al _ c1), cell_dr (cell_al _ c2)⟩ | exact ⟨cell_below (cell_dr (cell_al _ c0)) hbF, cell_below (cell_dr (cell_al _ c1)) hbF, cell_below (cell_dr (cell_al _ c2)) hbF⟩)
    (first
      | (go_at_call 16; ((with_reducible refine (none_any _).mono ?_)); rintro e w' ⟨rfl, rfl⟩)
      | (go_at_call 34; ((with_reducible refine (inBlock_any _ B A L _ (cell_dr (cell_al _ D0.out)) (cell_dr (cell_al _ D1.out)) (cell_dr (cell_al _ D2.out))).mono ?_)); rintro e w5 ⟨rfl, hbF⟩; have HB5 := Lib.hid (bstep ((HB.out.alloc HB.out.size _).drew) hbF)))
  go_wp2
  go_ret
  exact ⟨rfl, HB5.out⟩
theorem right_any (B A L : Int) (w : World) :
    Calls Tryd.prog 12 #[.agg #[.int .i64 B, .int .i64 A, .int .i64 L]] w fun e w' => e = .returned (.bool (decide (rightC B A L))) ∧ Below w.heap.size w w' := by
  by_cases h : isNo B A L
  · rw [decide_eq_true (show rightC B A L from .inl h)]
    exact right_is B A L w h
  · have e : decide (rightC B A L) = decide (inBk B A L) := by
      rw [Bool.eq_iff_iff]
      simp only [decide_eq_true_eq]
      exact ⟨fun k => k.resolve_left h, .inr⟩
    rw [e]
    exact right_not B A L w h
theorem rightC_le {B A L : Int} (h : rightC B A L) : 0 ≤ A ∧ A ≤ L ∧ L ≤ 131072 := by
  rcases h with ⟨_, _, _⟩ | ⟨_, _, _, _, _, _, _⟩ <;> omega
theorem right_t (B A L : Int) (w : World) (h : rightC B A L) : Calls Tryd.prog 12 #[.agg #[.int .i64 B, .int .i64 A, .int .i64 L]] w fun e w' => e = .returned (.bool true) ∧ Below w.heap.size w w' := by
  have := right_any B A L w
  rwa [decide_eq_true h] at this
theorem right_f (B A L : Int) (w : World) (h : ¬ rightC B A L) : Calls Tryd.prog 12 #[.agg #[.int .i64 B, .int .i64 A, .int .i64 L]] w fun e w' => e = .returned (.bool false) ∧ Below w.heap.size w w' := by
  have := right_any B A L w
  rwa [decide_eq_false h] at this
theorem room_any (B A L : Int) (w : World) :
    Calls Tryd.prog 14 #[.agg #[.int .i64 B, .int .i64 A, .int .i64 L]] w fun e w' => e = .returned (.int .i64 (roomC B A L)) ∧ Below w.heap.size w w' := by
  obtain ⟨b0, hB, hs⟩ := blk1 w #[.int .i64 B, .int .i64 A, .int .i64 L] 23
  by_cases h : rightC B A L
  · obtain ⟨h1, h2, h3⟩ := rightC_le h
    rw [roomC, if_pos h]
    have HR := Lib.hid (right_t B A L (w.alloc (.cells #[.int .i64 B, .int .i64 A, .int .i64 L] 23)) h)
    have HB := Lib.hid hB
    have B0 := Lib.hid b0
    clear b0 hB hs h
    go_enter Tryd.func14, Tryd.ntmps14
    go_wp2_with fail
    ((with_reducible refine HR.out.mono ?_))
    rintro e w1 ⟨rfl, hb⟩
    have bb := B0.out.below' hb
    have c1 : w1.cell? ⟨w.heap.size, 1, none⟩ = some (.int .i64 A) := bb.cell rfl
    have c2 : w1.cell? ⟨w.heap.size, 2, none⟩ = some (.int .i64 L) := bb.cell rfl
    have HB1 := Lib.hid (bstep HB.out hb)
    clear hb bb
    go_wp2
    go_ret
    exact ⟨rfl, HB1.out⟩
  · rw [roomC, if_neg h]
    have HR := Lib.hid (right_f B A L (w.alloc (.cells #[.int .i64 B, .int .i64 A, .int .i64 L] 23)) h)
    have HB := Lib.hid hB
    clear b0 hB hs h
    go_enter Tryd.func14, Tryd.ntmps14
    go_wp2_with fail
    ((with_reducible refine HR.out.mono ?_))
    rintro e w1 ⟨rfl, hb⟩
    have HB1 := Lib.hid (bstep HB.out hb)
    clear hb
    go_wp2
    go_ret
    exact ⟨rfl, HB1.out⟩
end Go.Proofs.YtanccoahpcfbnaaDoor
