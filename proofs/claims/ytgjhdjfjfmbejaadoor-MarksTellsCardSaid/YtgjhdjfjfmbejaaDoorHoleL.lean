/-
  finder.first with one thing wanted: the first hole that is so long; what lay in memory stays.
-/
import Derived.Test.YtgjhdjfjfmbejaaDoorHoleK
import Derived.Deep.RegionHeld3
namespace Go.Proofs.YtgjhdjfjfmbejaaDoor
open Go.RowKit Go.Lib Go.Shelf
attribute [local go_sem] Oper.semAt_some

theorem keepsFrom_below {B : Nat} {W W' : World} (h : Below W.heap.size W W') : KeepsFrom B W W' := ⟨h.size, fun k _ _ hk _ => (h.block k (Array.getElem?_eq_some_iff.1 hk).1).trans hk⟩
/-- Has a hole at least n lines? -/
def wantB (n : Int) (p : Nat × Nat) : Bool := decide (n ≤ ((p.2 - p.1 : Nat) : Int))

set_option maxRecDepth 100000 in
theorem fits1_any (x : Hl) (n : Int) (N : Nat) (w : World) (hN : w.cell? ⟨N, 0, none⟩ = some (.int .i64 n)) :
    Calls Tryd.prog 57 #[.agg #[.int .i64 ((x.1.1 : Nat) : Int), .int .i64 ((x.1.2 : Nat) : Int)], .pointer (some ⟨N, 0, none⟩)] w fun e w' => e = .returned (.bool (wantB n x.1)) ∧ Below w.heap.size w w' := by
  have hN1 := cell_al (.cells #[.int .i64 ((x.1.1 : Nat) : Int), .int .i64 ((x.1.2 : Nat) : Int)] 41) hN
  have hB := Blk.new w #[.int .i64 ((x.1.1 : Nat) : Int), .int .i64 ((x.1.2 : Nat) : Int)] 41
  have c0 : (w.alloc (.cells #[.int .i64 ((x.1.1 : Nat) : Int), .int .i64 ((x.1.2 : Nat) : Int)] 41)).cell? ⟨w.heap.size, 0, none⟩ = some (.int .i64 ((x.1.1 : Nat) : Int)) := hB.cell rfl
  have c1 : (w.alloc (.cells #[.int .i64 ((x.1.1 : Nat) : Int), .int .i64 ((x.1.2 : Nat) : Int)] 41)).cell? ⟨w.heap.size, 1, none⟩ = some (.int .i64 ((x.1.2 : Nat) : Int)) := hB.cell rfl
  have hb1 := (Below.refl w.heap.size w).alloc (Nat.le_refl _) (.cells #[.int .i64 ((x.1.1 : Nat) : Int), .int .i64 ((x.1.2 : Nat) : Int)] 41)
  have HB1 := Lib.hid hb1
  clear hB hb1
  have HLEN := Lib.hid (length_any x)
  have hw : wantB n x.1 = decide (n ≤ ((x.1.2 - x.1.1 : Nat) : Int)) := rfl
  rw [hw]
  clear hw
  generalize x.1.2 - x.1.1 = d at HLEN ⊢
  go_enter Tryd.func57, Tryd.ntmps57
  go_wp2_with fail
  generalize (w.alloc (.cells #[.int .i64 ((x.1.1 : Nat) : Int), .int .i64 ((x.1.2 : Nat) : Int)] 41)) = W1 at hN1 c0 c1 HB1 ⊢
  have HLT := Lib.hid (World.block_lt_of_cell? W1 _ c0)
  have hx := x.2
  go_region_held3 (fun w' => w'.cell? ⟨N, 0, none⟩ = some (.int .i64 n) ∧ w'.cell? ⟨w.heap.size, 0, none⟩ = some (.int .i64 ((x.1.1 : Nat) : Int)) ∧ w'.cell? ⟨w.heap.size, 1, none⟩ = some (.int .i64 ((x.1.2 : Nat) : Int)))
    (with_reducible first | exact ⟨hN1, c0, c1⟩ | exact ⟨cell_dr hN1, cell_dr c0, cell_dr c1⟩ | exact ⟨cell_al _ hN1, cell_al _ c0, cell_al _ c1⟩ | exact ⟨cell_al _ (cell_dr hN1), cell_al _ (cell_dr c0), cell_al _ (cell_dr c1)⟩ | exact ⟨cell_dr (cell_al _ hN1), cell_dr (cell_al _ c0), cell_dr (cell_al _ c1)⟩)
    (first
      | (go_at_call 49; refine (HLEN.out _).mono ?_; rintro e w' ⟨rfl, rfl⟩))
  all_goals go_wp2
  all_goals go_ret
  all_goals exact ⟨rfl, (HB1.out.alloc HB1.out.size _).drew⟩

def noneW (n : Int) (pre : List Hl) : Prop := ∀ x ∈ pre, wantB n x.1 = false
def lastW (n : Int) (pre : List Hl) : Prop := ∃ p x, pre = p ++ [x] ∧ noneW n p ∧ wantB n x.1 = true
theorem noneW_nil (n : Int) : noneW n [] := fun _ h => by cases h
theorem noneW_snoc {n : Int} {pre : List Hl} {x : Hl} (h : noneW n pre) (hx : wantB n x.1 = false) : noneW n (pre ++ [x]) := fun y hy => by
  rcases List.mem_append.1 hy with hy | hy
  · exact h y hy
  · simp at hy; subst hy; exact hx
theorem lastW_snoc {n : Int} {pre : List Hl} {x : Hl} (h : noneW n pre) (hx : wantB n x.1 = true) : lastW n (pre ++ [x]) := ⟨pre, x, rfl, h, hx⟩
theorem noneW_find {n : Int} {pre : List Hl} (h : noneW n pre) : (rawH pre).find? (wantB n) = none := by
  rw [List.find?_eq_none]
  intro p hp
  obtain ⟨x, hx, rfl⟩ := List.mem_map.1 hp
  rw [h x hx]; decide
theorem lastW_find {n : Int} {p : List Hl} {x : Hl} (h : noneW n p) (hx : wantB n x.1 = true) (t : List (Nat × Nat)) : (rawH (p ++ [x]) ++ t).find? (wantB n) = some x.1 := by
  rw [rawH_snoc, List.find?_append, List.find?_append, noneW_find h]
  simp [hx]

/-- The end of 'first': what is found is what is given back. -/
theorem first_endR (o : Option (Nat × Nat)) (w W W3 : World) (D : Nat) (r : Option (Nat × Nat)) (u v : Int) (hr : hole2 r = #[.int .i64 u, .int .i64 v]) (hh : o = r) (hw : w.heap.size ≤ W3.heap.size) (hD : W3.heap.size ≤ D) (hK : W.heap[D]? = some (.deferred (some [])))
    (g3 : Blk W (w.heap.size + 1 + 1) #[.int .i64 0, .int .i64 0] 41) (g5 : Below w.heap.size w W) (tmps : Array Value) (h4 : tmps.getD 4 undef = .pointer (some ⟨w.heap.size + 1 + 1, 0, none⟩)) (h5 : tmps.getD 5 undef = .bool r.isSome) :
    bodyPostM Fence.wide 9 Tryd.prog Tryd.f47 (fun e w' => e = .returned (firstV o) ∧ Below w.heap.size w w') .ret { tmps := tmps, defers := [{ target := .collected D, args := #[] }] } ((W.setCell ⟨w.heap.size + 1 + 1, 0, none⟩ (.int .i64 u)).setCell ⟨w.heap.size + 1 + 1, 1, none⟩ (.int .i64 v)).drew := by
  have hK' : ((W.setCell ⟨w.heap.size + 1 + 1, 0, none⟩ (.int .i64 u)).setCell ⟨w.heap.size + 1 + 1, 1, none⟩ (.int .i64 v)).drew.heap[D]? = some (.deferred (some [])) := ((KeepsOthers.setCell W ⟨w.heap.size + 1 + 1, 0, none⟩ (.int .i64 u)).trans (KeepsOthers.setCell _ ⟨w.heap.size + 1 + 1, 1, none⟩ (.int .i64 v))).same D _ hK rfl
  have bN := blk_putObj (.deferred none) (((g3.set 0 (.int .i64 u)).set 1 (.int .i64 v)).drew) hK' rfl
  have hr' : (#[Value.int IntKind.i64 0, Value.int IntKind.i64 0].setIfInBounds 0 (Value.int IntKind.i64 u)).setIfInBounds 1 (Value.int IntKind.i64 v) = hole2 r := hr.symm
  rw [hr'] at bN
  have hs : (hole2 r).size = 2 := by rw [hr]; rfl
  have hrow := run_loadVar_row (P := Tryd.prog) _ (w.heap.size + 1 + 1) 41 41 _ (0, 0) _ bN Tryd.underlying41 rfl (by rw [hs]; exact Tryd.infoHole2)
  refine ⟨by simp, .inl ⟨_, _, rfl, run_takeDeferred hK', ?_⟩⟩
  refine ⟨firstV r, res_cell_tmp rfl _ _ _ _ _ h5 h4 hrow, by rw [hh], ?_⟩
  have hbb := ((g5.setCell (p := ⟨w.heap.size + 1 + 1, 0, none⟩) (by simp; omega) (.int .i64 u)).setCell (p := ⟨w.heap.size + 1 + 1, 1, none⟩) (by simp; omega) (.int .i64 v)).drew
  exact hbb.trans (belowK_b (w := W3) hw _ D _ _ hD hK' rfl rfl)

set_option maxRecDepth 100000 in
set_option maxHeartbeats 2000000 in
theorem first_want (q : Nat → Bool) (f : Nat) (n : Int) (N G : Nat) (w : World) (hN : w.cell? ⟨N, 0, none⟩ = some (.int .i64 n)) (hG : w.cell? ⟨G, 0, none⟩ = some (.func (.func 57) #[] #[.pointer (some ⟨N, 0, none⟩)])) :
    Calls Tryd.prog 47 #[.agg (fcells q f), .slice (some ⟨G, 0, none⟩) 1 1] w fun e w' => e = .returned (firstV ((holesZ q f).find? (wantB n))) ∧ Below w.heap.size w w' := by
  refine (callsIn_wide (n := 9)).1 ?_
  refine callsIn_of_wp_marks Tryd.func47 rfl trivial ?_ rfl
  simp only [Tryd.ntmps47, List.size_toArray, List.length_cons, List.length_nil, Nat.reduceAdd, Nat.reduceSub, Array.replicate_succ, Array.replicate_zero, List.push_toArray, List.append_toArray, List.nil_append, List.cons_append]
  refine wpIn_wide.2 ?_
  go_wp2_with fail
  go_step3
  go_wp2_with fail
  go_step3
  go_wp2_with (first
    | (refine wpList_load_row rfl 72 _ rfl _ rfl 72 _ (0, 0) _ ((((Blk.new w _ _).alloc _).alloc _).alloc _) Tryd.underlying72 rfl (by rw [fcells_size]; exact Tryd.infoFinder) ?_)
    | (go_at_call 48; ((with_reducible refine (holes_any _ _ _).mono ?_)); rintro e w' ⟨rfl, rfl⟩))
  refine (wpIn_wide (n := 9)).1 ?_
  obtain ⟨_, b1, b2, b3, b4, hB0, hsz⟩ := blk5 w (fcells q f) #[.slice (some ⟨G, 0, none⟩) 1 1] #[.int .i64 0, .int .i64 0] #[.int .i64 0, .int .i64 0] (fcells q f) 72 91 41 41 72
  generalize ((((w.alloc (.cells (fcells q f) 72)).alloc (.cells #[.slice (some ⟨G, 0, none⟩) 1 1] 91)).alloc (.cells #[.int .i64 0, .int .i64 0] 41)).alloc (.cells #[.int .i64 0, .int .i64 0] 41)).alloc (.cells (fcells q f) 72) = W3 at b1 b2 b3 b4 hB0 hsz ⊢
  have HSZ := Lib.hid hsz
  clear hsz
  refine wpIn_rangeFunc_ownH rfl (by omega) (gf := 58) (lb := #[.pointer (some ⟨w.heap.size + 1 + 1 + 1 + 1, 0, none⟩)]) rfl trivial (enters_of Tryd.func58 (by kernel_rfl) rfl)
    (holes1_stops _ (by omega) (w.heap.size + 1 + 1 + 1 + 1) f q W3 (by exact b4)) (fun h k => h.trans k) (KS.putObj (fun i hi => by simp at hi; have := HSZ.out; omega)) (Below.refl _ _) (fun _ => rfl)
    (fun pre W => noneW n pre ∧ Blk W (w.heap.size + 1 + 1 + 1 + 1) (fcells q f) 72 ∧ Blk W (w.heap.size + 1) #[.slice (some ⟨G, 0, none⟩) 1 1] 91 ∧ Blk W (w.heap.size + 1 + 1) #[.int .i64 0, .int .i64 0] 41 ∧ Blk W (w.heap.size + 1 + 1 + 1) #[.int .i64 0, .int .i64 0] 41 ∧ Below w.heap.size w W)
    (fun c pre W => (c = .exit 0 ∧ lastW n pre) ∧ Blk W (w.heap.size + 1 + 1) #[.int .i64 0, .int .i64 0] 41 ∧ Blk W (w.heap.size + 1 + 1 + 1) (hole2 (rawH pre).getLast?) 41 ∧ Below w.heap.size w W)
    ((ownFrom_pure _ _).and (((blk_own _ _ _).from _).and (((blk_own _ _ _).from _).and (((blk_own _ _ _).from _).and (((blk_own _ _ _).from _).and (ownFrom_below (Nat.le_refl _) (by have := HSZ.out; omega)))))))
    (fun c => (ownFrom_pure _ _).and (((blk_own _ _ _).from _).and (((blk_own _ _ _).from _).and (ownFrom_below (Nat.le_refl _) (by have := HSZ.out; omega)))))
    ⟨noneW_nil n, b4, b1, b2, b3, hB0⟩
    (fun x a' W => ∃ Bx, (w.heap.size + 1 + 1 + 1 + 1 < Bx ∧ a' = { tmps := #[.agg (fcells q f), .slice (some ⟨G, 0, none⟩) 1 1, .pointer (some ⟨w.heap.size, 0, none⟩), .pointer (some ⟨w.heap.size + 1, 0, none⟩), .pointer (some ⟨w.heap.size + 1 + 1, 0, none⟩), .bool false, .pointer (some ⟨w.heap.size + 1 + 1 + 1, 0, none⟩), .pointer (some ⟨Bx, 0, none⟩), undef, undef, .agg (fcells q f), .func (.func 58) #[] #[.pointer (some ⟨w.heap.size + 1 + 1 + 1 + 1, 0, none⟩)], .agg #[.int .i64 ((x.1.1 : Nat) : Int), .int .i64 ((x.1.2 : Nat) : Int)], undef, undef, undef, undef, undef, undef, undef, undef, undef, undef, undef, undef, undef, undef, undef, undef], defers := [] }) ∧ Blk W Bx #[.int .i64 ((x.1.1 : Nat) : Int), .int .i64 ((x.1.2 : Nat) : Int)] 41)
    (fun x a' s A B row hs hg hr => by obtain ⟨Bx, h1, h2⟩ := hs; exact ⟨Bx, h1, (blk_own (β := Unit) _ _ (fun _ => #[.int .i64 ((x.1.1 : Nat) : Int), .int .i64 ((x.1.2 : Nat) : Int)])).from _ () A B row h2 hg hr⟩)
    ?assign ?body ?done ?stop
  case assign =>
    rintro l pre x W K ⟨g0, g1, g2, g3, g4, g5⟩ hK
    have hW := g1.lt
    gi_wp2
    exact hK _ _ ((KeepsOthers.alloc _ _).from _) (KS.alloc _ _ (fun i hi => by simp at hi; omega)) ⟨g0, g1.alloc _, g2.alloc _, g3.alloc _, g4.alloc _, g5.alloc g5.size _⟩ ⟨W.heap.size, ⟨g1.lt, rfl⟩, Blk.new W _ _⟩
  case body =>
    rintro l pre x a' W hl _ ⟨g0, g1, g2, g3, g4, g5⟩ ⟨Bx, ⟨hBx, rfl⟩, bX⟩ hlen
    have c3 : W.cell? ⟨Bx, 0, none⟩ = some (.int .i64 ((x.1.1 : Nat) : Int)) := bX.cell rfl
    have c4 : W.cell? ⟨Bx, 1, none⟩ = some (.int .i64 ((x.1.2 : Nat) : Int)) := bX.cell rfl
    have c2 : W.cell? ⟨w.heap.size + 1, 0, none⟩ = some (.slice (some ⟨G, 0, none⟩) 1 1) := g2.cell rfl
    have cN := cell_below hN g5
    have cG := cell_below hG g5
    have HF := Lib.hid (fits1_any x n N W cN)
    have HG0 := Lib.hid g0
    clear g0
    cases hwx : wantB n x.1 with
    | false =>
      rw [hwx] at HF
      have HW := Lib.hid hwx
      clear hwx
      gi_wp2
      refine wpIn_loop_rounds 2 ?_
      rw [roundsIn_succ]
      gi_wp2_with (refine ⟨trivial, ?_⟩; gi_at_call 57; refine (CallsIn.inRound l (callsIn_wide.2 HF.out)).mono ?_; rintro e w' ⟨rfl, hb⟩)
      exact ⟨keepsFrom_below hb, KS.of_below hb (fun i hi => by simp at hi; subst hi; exact g1.lt), noneW_snoc HG0.out HW.out, g1.below' hb, g2.below' hb, g3.below' hb, g4.below' hb, bstep g5 hb⟩
    | true =>
      rw [hwx] at HF
      have HW := Lib.hid hwx
      clear hwx
      gi_wp2
      refine wpIn_loop_rounds 2 ?_
      rw [roundsIn_succ]
      gi_wp2_with (refine ⟨trivial, ?_⟩; gi_at_call 57; refine (CallsIn.inRound l (callsIn_wide.2 HF.out)).mono ?_; rintro e w' ⟨rfl, hb⟩)
      rw [roundsIn_succ]
      have g4' := g4.below' hb
      have c5 : w'.cell? ⟨w.heap.size + 1 + 1 + 1, 0, none⟩ = some (.int .i64 0) := g4'.cell rfl
      have c6 : w'.cell? ⟨w.heap.size + 1 + 1 + 1, 1, none⟩ = some (.int .i64 0) := g4'.cell rfl
      have f2 := g4'.frozen 0
      have f3 := g4'.frozen 1
      have c7 : w'.cell? ⟨Bx, 0, none⟩ = some (.int .i64 ((x.1.1 : Nat) : Int)) := (bX.below' hb).cell rfl
      have c8 : w'.cell? ⟨Bx, 1, none⟩ = some (.int .i64 ((x.1.2 : Nat) : Int)) := (bX.below' hb).cell rfl
      have HB := Lib.hid hb
      clear hb
      gi_wp2
      refine ⟨(keepsFrom_below HB.out).trans (((KeepsOthers.setCell _ _ _).trans (KeepsOthers.setCell _ _ _)).from _), ⟨rfl, lastW_snoc HG0.out HW.out⟩, ((g3.below' HB.out).other (by omega) _ _).other (by omega) _ _, ?_, ((bstep g5 HB.out).setCell (p := ⟨w.heap.size + 1 + 1 + 1, 0, none⟩) (by simp; omega) _).setCell (p := ⟨w.heap.size + 1 + 1 + 1, 1, none⟩) (by simp; omega) _⟩
      rw [rawH_snoc, List.getLast?_concat]
      exact (g4'.set 0 _).set 1 _
  case done =>
    rintro D xs W hD hS ⟨g0, g1, g2, g3, g4, g5⟩ hK
    have hh : (holesZ q f).find? (wantB n) = none := by rw [← hS]; exact noneW_find g0
    have c1 : W.cell? ⟨w.heap.size + 1 + 1, 0, none⟩ = some (.int .i64 0) := g3.cell rfl
    have c2 : W.cell? ⟨w.heap.size + 1 + 1, 1, none⟩ = some (.int .i64 0) := g3.cell rfl
    have c5 : W.cell? ⟨w.heap.size + 1 + 1 + 1, 0, none⟩ = some (.int .i64 0) := g4.cell rfl
    have c6 : W.cell? ⟨w.heap.size + 1 + 1 + 1, 1, none⟩ = some (.int .i64 0) := g4.cell rfl
    have f2 := g3.frozen 0
    have f3 := g3.frozen 1
    have HH := Lib.hid hh
    clear hh hS g0
    gi_wp2
    go_wp2
    go_region
    all_goals go_wp2
    all_goals (try rw [Exit.noGoto_ret])
    all_goals exact first_endR _ w W W3 D none 0 0 rfl HH.out (by have := HSZ.out; omega) hD hK g3 g5 _ rfl rfl
  case stop =>
    rintro D c pre W hD hSp ⟨⟨rfl, hp⟩, g3, g4, g5⟩ hK
    obtain ⟨p, x, rfl, hp0, hx1⟩ := hp
    have hh : (holesZ q f).find? (wantB n) = some x.1 := by obtain ⟨t, ht⟩ := hSp; rw [← ht]; exact lastW_find hp0 hx1 t
    have hx := x.2
    have hne : ((x.1.2 : Nat) : Int) ≠ 0 := by omega
    rw [rawH_snoc, List.getLast?_concat] at g4
    have c1 : W.cell? ⟨w.heap.size + 1 + 1, 0, none⟩ = some (.int .i64 0) := g3.cell rfl
    have c2 : W.cell? ⟨w.heap.size + 1 + 1, 1, none⟩ = some (.int .i64 0) := g3.cell rfl
    have c5 : W.cell? ⟨w.heap.size + 1 + 1 + 1, 0, none⟩ = some (.int .i64 ((x.1.1 : Nat) : Int)) := g4.cell rfl
    have c6 : W.cell? ⟨w.heap.size + 1 + 1 + 1, 1, none⟩ = some (.int .i64 ((x.1.2 : Nat) : Int)) := g4.cell rfl
    have f2 := g3.frozen 0
    have f3 := g3.frozen 1
    have HH := Lib.hid hh
    clear hh hp0 hx1 hSp
    gi_wp2
    go_wp2
    go_region
    all_goals go_wp2
    all_goals (try rw [Exit.noGoto_ret])
    all_goals exact first_endR _ w W W3 D (some x.1) _ _ rfl HH.out (by have := HSZ.out; omega) hD hK g3 g5 _ rfl rfl
end Go.Proofs.YtgjhdjfjfmbejaaDoor
