/-
  marks.Right, for every list: a list of another length than 32 is no table; of 32 numbers it tells whether each is 0, 1 or 2; what lay in memory stays.
-/
import Derived.Test.YtanccoahpcfbnaaDoorMarksA
namespace Go.Proofs.YtanccoahpcfbnaaDoor
open Go.RowKit Go.Lib Go.Shelf
attribute [local go_sem] Oper.semAt_some

/-- The 32 cells from offset o of block b on hold the numbers z. -/
def Tab (w : World) (b o : Nat) (z : Nat → Int) : Prop := ∀ i, i < 32 → w.cell? ⟨b, o + i, none⟩ = some (.int .i64 (z i))
theorem Tab.lt {w : World} {b o : Nat} {z : Nat → Int} (h : Tab w b o z) : b < w.heap.size := World.block_lt_of_cell? w _ (h 0 (by omega))
theorem Tab.below {w w' : World} {b o : Nat} {z : Nat → Int} (h : Tab w b o z) (hb : Below w.heap.size w w') : Tab w' b o z := fun i hi => cell_below (h i hi) hb
/-- Are they all 0, 1 or 2? -/
def rightT (z : Nat → Int) : Bool := (List.range 32).all fun i => decide (0 ≤ z i ∧ z i ≤ 2)
theorem rightT_iff (z : Nat → Int) : rightT z = true ↔ ∀ i, i < 32 → 0 ≤ z i ∧ z i ≤ 2 := by simp only [rightT, List.all_eq_true, List.mem_range, decide_eq_true_eq]

theorem right_len (p : Option Addr) (n cap : Nat) (w : World) (hn : n ≠ 32) :
    Calls Tryd.prog 41 #[.slice p n cap] w fun e w' => e = .returned (.bool false) ∧ Below w.heap.size w w' := by
  have hd : ((n : Int) != 32) = true := by simp; omega
  have hB : Below w.heap.size w (w.alloc (.cells #[.slice p n cap] 35)) := (Below.refl _ w).alloc (Nat.le_refl _) _
  have HB := Lib.hid hB
  clear hn hB
  go_enter Tryd.func41, Tryd.ntmps41
  go_wp2
  go_step3
  go_wp2
  try rw [Exit.noGoto_ret]
  go_ret
  exact ⟨rfl, HB.out⟩

/-- What has come so far is right. -/
def rgtI (z : Nat → Int) (pre : List (Fin 32)) : Prop := ∀ x ∈ pre, 0 ≤ z x.val ∧ z x.val ≤ 2
/-- The last one that has come is not. -/
def rgtX (z : Nat → Int) (pre : List (Fin 32)) : Prop := ∃ x ∈ pre, ¬ (0 ≤ z x.val ∧ z x.val ≤ 2)

set_option maxRecDepth 100000 in
set_option maxHeartbeats 2000000 in
theorem right_tab (b o cap : Nat) (z : Nat → Int) (w : World) (hT : Tab w b o z) :
    Calls Tryd.prog 41 #[.slice (some ⟨b, o, none⟩) 32 cap] w fun e w' => e = .returned (.bool (rightT z)) ∧ Below w.heap.size w w' := by
  refine (callsIn_wide (n := 9)).1 ?_
  refine callsIn_of_wp_marks Tryd.func41 rfl trivial ?_ rfl
  simp only [Tryd.ntmps41, List.size_toArray, List.length_cons, List.length_nil, Nat.reduceAdd, Nat.reduceSub, Array.replicate_succ, Array.replicate_zero, List.push_toArray, List.append_toArray, List.nil_append, List.cons_append]
  have HT := Lib.hid hT
  have hlt := hT.lt
  clear hT
  gi_wp2_with fail
  refine wpIn_scope_straight ?_
  gi_wp2_with fail
  refine wpIn_label ?_
  gi_wp2_with (refine ⟨trivial, ?_⟩; gi_at_call 54; ((with_reducible refine (callsIn_wide.2 (lines_any _ _ _)).mono ?_)); rintro e w' ⟨rfl, rfl⟩)
  obtain ⟨b0, b1, b2, b3, hB0, hsz⟩ := blk4 w #[.slice (some ⟨b, o, none⟩) 32 cap] #[.bool true] #[.int .i64 0] #[.int .i64 31] 35 4 3 3
  generalize ((((w.alloc (.cells #[.slice (some ⟨b, o, none⟩) 32 cap] 35)).alloc (.cells #[.bool true] 4)).alloc (.cells #[.int .i64 0] 3)).alloc (.cells #[.int .i64 31] 3)) = W0 at b0 b1 b2 b3 hB0 hsz ⊢
  have HSZ := Lib.hid hsz
  clear hsz
  refine wpIn_rangeFunc_ownG rfl (by omega) (gf := 63) (lb := #[.pointer (some ⟨w.heap.size + 1 + 1, 0, none⟩), .pointer (some ⟨w.heap.size + 1 + 1 + 1, 0, none⟩)]) rfl trivial (enters_of Tryd.func63 (by kernel_rfl) rfl)
    (lines1_stops _ (by omega) _ _ 0 32 31 (by omega) (by omega) (by omega) (by omega) _ (b2.cell rfl) (b3.cell rfl)) (fun h k => h.trans k) (KS.putObj (fun i hi => by simp at hi; have := HSZ.out; omega)) (Below.refl _ _) (fun _ => rfl)
    (fun pre W => Blk W w.heap.size #[.slice (some ⟨b, o, none⟩) 32 cap] 35 ∧ Blk W (w.heap.size + 1) #[.bool true] 4 ∧ rgtI z pre ∧ Below w.heap.size w W)
    (fun c pre W => c = .exit 0 ∧ rgtX z pre ∧ Blk W (w.heap.size + 1) #[.bool false] 4 ∧ Below w.heap.size w W)
    (((blk_own _ _ _).from _).and (((blk_own _ _ _).from _).and ((ownFrom_pure _ _).and (ownFrom_below (Nat.le_refl _) (by have := HSZ.out; omega)))))
    (fun c => (ownFrom_pure _ _).and ((ownFrom_pure _ _).and (((blk_own _ _ _).from _).and (ownFrom_below (Nat.le_refl _) (by have := HSZ.out; omega)))))
    ⟨b0, b1, (fun _ h => by cases h), hB0⟩
    (fun x => { tmps := #[.slice (some ⟨b, o, none⟩) 32 cap, .pointer (some ⟨w.heap.size, 0, none⟩), .bool false, .pointer (some ⟨w.heap.size + 1, 0, none⟩), .int .i64 ((x.val : Nat) : Int), .slice (some ⟨b, o, none⟩) 32 cap, .int .i64 32, .bool false, .func (.func 63) #[] #[.pointer (some ⟨w.heap.size + 1 + 1, 0, none⟩), .pointer (some ⟨w.heap.size + 1 + 1 + 1, 0, none⟩)], .int .i64 ((x.val : Nat) : Int), undef, undef, undef, undef, undef, undef, undef, undef, undef, undef, undef, undef, undef], defers := [] }) ?assign ?body ?done ?stop
  case assign =>
    intro l x W K hK
    gi_wp2
    exact hK
  case body =>
    rintro l pre x W ⟨g0, g1, g2, g3⟩ hlen
    have c0 : W.cell? ⟨w.heap.size, 0, none⟩ = some (.slice (some ⟨b, o, none⟩) 32 cap) := g0.cell rfl
    have c1 : W.cell? ⟨w.heap.size + 1, 0, none⟩ = some (.bool true) := g1.cell rfl
    have f1 := g1.frozen 0
    have hx : x.val < 32 := x.isLt
    have cx : W.cell? ⟨b, o + x.val, none⟩ = some (.int .i64 (z x.val)) := HT.out.below g3 x.val hx
    have G2 := Lib.hid g2
    have KB : Hid (KeepsOthers W (W.setCell ⟨w.heap.size + 1, 0, none⟩ (.bool false))) := Lib.hid (KeepsOthers.setCell _ _ _)
    clear g2 hlen
    by_cases hz0 : z x.val < 0
    · gi_wp2
      exact ⟨KB.out.from _, rfl, ⟨x, by simp, by omega⟩, g1.set 0 _, g3.setCell (p := ⟨w.heap.size + 1, 0, none⟩) (by simp) _⟩
    · by_cases hz2 : 2 < z x.val
      · gi_wp2
        exact ⟨KB.out.from _, rfl, ⟨x, by simp, by omega⟩, g1.set 0 _, g3.setCell (p := ⟨w.heap.size + 1, 0, none⟩) (by simp) _⟩
      · gi_wp2
        refine ⟨KeepsFrom.refl _ _, KS.refl _ _, g0, g1, ?_, g3⟩
        intro y hy
        rcases List.mem_append.1 hy with hy | hy
        · exact G2.out y hy
        · simp at hy; subst hy; omega
  case done =>
    rintro D xs W hD rfl ⟨g0, g1, g2, g3⟩ hK
    have hr : rightT z = true := (rightT_iff z).2 (fun i hi => by have := g2 (Fin.ofNat 32 i) (List.mem_map.2 ⟨i, by simpa using hi, by simp⟩); rwa [fin_val i hi] at this)
    have c1 : W.cell? ⟨w.heap.size + 1, 0, none⟩ = some (.bool true) := g1.cell rfl
    have HR := Lib.hid hr
    clear g2 hr
    gi_wp2
    rw [Exit.noGoto_ret]
    refine ⟨by simp, .inl ⟨_, _, rfl, run_takeDeferred hK, ?_⟩⟩
    exact ⟨_, results_tmp rfl _ _ _, by rw [HR.out]; rfl, g3.trans (belowK_b (w := W0) (by have := HSZ.out; omega) _ D _ _ hD hK rfl rfl)⟩
  case stop =>
    rintro D c pre W hD hSp ⟨rfl, ⟨x, _, hx⟩, g1, g3⟩ hK
    have hr : rightT z = false := by
      by_cases h : rightT z = true
      · exact absurd ((rightT_iff z).1 h x.val x.isLt) hx
      · simpa using h
    have c1 : W.cell? ⟨w.heap.size + 1, 0, none⟩ = some (.bool false) := g1.cell rfl
    have HR := Lib.hid hr
    clear hx hr hSp
    gi_wp2
    rw [Exit.noGoto_ret]
    refine ⟨by simp, .inl ⟨_, _, rfl, run_takeDeferred hK, ?_⟩⟩
    exact ⟨_, results_tmp rfl _ _ _, by rw [HR.out]; rfl, g3.trans (belowK_b (w := W0) (by have := HSZ.out; omega) _ D _ _ hD hK rfl rfl)⟩
end Go.Proofs.YtanccoahpcfbnaaDoor
