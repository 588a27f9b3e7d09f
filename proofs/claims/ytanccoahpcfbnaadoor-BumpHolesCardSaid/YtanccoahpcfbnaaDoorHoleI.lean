/-
  finder.first with nothing wanted: the first hole; and hole.Next.
-/
import Derived.Test.YtanccoahpcfbnaaDoorHoleH
namespace Go.Proofs.YtanccoahpcfbnaaDoor
open Go.RowKit Go.Lib Go.Shelf
attribute [local go_sem] Oper.semAt_some

/-- A hole and whether there is one. -/
def hole2 (o : Option (Nat × Nat)) : Array Value := match o with
  | some p => #[.int .i64 ((p.1 : Nat) : Int), .int .i64 ((p.2 : Nat) : Int)]
  | none => #[.int .i64 0, .int .i64 0]
def firstV (o : Option (Nat × Nat)) : Value := .tuple #[.agg (hole2 o), .bool o.isSome]

theorem Tryd.infoHole2 : (Tryd.prog.info? 53).map (·.size) = some 2 := by kernel_rfl
/-- The end of 'first': what is found is what is given back. -/
theorem first_end (q : Nat → Bool) (f : Nat) (w W W3 : World) (D : Nat) (r : Option (Nat × Nat)) (u v : Int) (hr : hole2 r = #[.int .i64 u, .int .i64 v]) (hh : (holesZ q f).head? = r) (hw : w.heap.size ≤ W3.heap.size) (hD : W3.heap.size ≤ D) (hK : W.heap[D]? = some (.deferred (some [])))
    (g3 : Blk W (w.heap.size + 1 + 1) #[.int .i64 0, .int .i64 0] 53) (g5 : Below w.heap.size w W) (tmps : Array Value) (h4 : tmps.getD 4 undef = .pointer (some ⟨w.heap.size + 1 + 1, 0, none⟩)) (h5 : tmps.getD 5 undef = .bool r.isSome) :
    bodyPostM Fence.wide 9 Tryd.prog Tryd.f53 (fun e w' => e = .returned (firstV (holesZ q f).head?) ∧ Below w.heap.size w w') .ret { tmps := tmps, defers := [{ target := .collected D, args := #[] }] } ((W.setCell ⟨w.heap.size + 1 + 1, 0, none⟩ (.int .i64 u)).setCell ⟨w.heap.size + 1 + 1, 1, none⟩ (.int .i64 v)).drew := by
  have hK' : ((W.setCell ⟨w.heap.size + 1 + 1, 0, none⟩ (.int .i64 u)).setCell ⟨w.heap.size + 1 + 1, 1, none⟩ (.int .i64 v)).drew.heap[D]? = some (.deferred (some [])) := ((KeepsOthers.setCell W ⟨w.heap.size + 1 + 1, 0, none⟩ (.int .i64 u)).trans (KeepsOthers.setCell _ ⟨w.heap.size + 1 + 1, 1, none⟩ (.int .i64 v))).same D _ hK rfl
  have bN := blk_putObj (.deferred none) (((g3.set 0 (.int .i64 u)).set 1 (.int .i64 v)).drew) hK' rfl
  have hr' : (#[Value.int IntKind.i64 0, Value.int IntKind.i64 0].setIfInBounds 0 (Value.int IntKind.i64 u)).setIfInBounds 1 (Value.int IntKind.i64 v) = hole2 r := hr.symm
  rw [hr'] at bN
  have hs : (hole2 r).size = 2 := by rw [hr]; rfl
  have hrow := run_loadVar_row (P := Tryd.prog) _ (w.heap.size + 1 + 1) 53 53 _ (0, 0) _ bN Tryd.underlying53 rfl (by rw [hs]; exact Tryd.infoHole2)
  refine ⟨by simp, .inl ⟨_, _, rfl, run_takeDeferred hK', ?_⟩⟩
  refine ⟨firstV r, res_cell_tmp rfl _ _ _ _ _ h5 h4 hrow, by rw [hh], ?_⟩
  have hbb := ((g5.setCell (p := ⟨w.heap.size + 1 + 1, 0, none⟩) (by simp; omega) (.int .i64 u)).setCell (p := ⟨w.heap.size + 1 + 1, 1, none⟩) (by simp; omega) (.int .i64 v)).drew
  exact hbb.trans (belowK_b (w := W3) hw _ D _ _ hD hK' rfl rfl)

set_option maxRecDepth 100000 in
set_option maxHeartbeats 2000000 in
theorem first_none (q : Nat → Bool) (f : Nat) (w : World) :
    Calls Tryd.prog 53 #[.agg (fcells q f), .slice none 0 0] w fun e w' => e = .returned (firstV (holesZ q f).head?) ∧ Below w.heap.size w w' := by
  refine (callsIn_wide (n := 9)).1 ?_
  refine callsIn_of_wp_marks Tryd.func53 rfl trivial ?_ rfl
  simp only [Tryd.ntmps53, List.size_toArray, List.length_cons, List.length_nil, Nat.reduceAdd, Nat.reduceSub, Array.replicate_succ, Array.replicate_zero, List.push_toArray, List.append_toArray, List.nil_append, List.cons_append]
  refine wpIn_wide.2 ?_
  go_wp2_with fail
  go_step3
  go_wp2_with fail
  go_step3
  go_wp2_with (first
    | (refine wpList_load_row rfl 77 _ rfl _ rfl 77 _ (0, 0) _ ((((Blk.new w _ _).alloc _).alloc _).alloc _) Tryd.underlying77 rfl (by rw [fcells_size]; exact Tryd.infoFinder) ?_)
    | (go_at_call 47; ((with_reducible refine (holes_any _ _ _).mono ?_)); rintro e w' ⟨rfl, rfl⟩))
  refine (wpIn_wide (n := 9)).1 ?_
  obtain ⟨_, b1, b2, b3, b4, hB0, hsz⟩ := blk5 w (fcells q f) #[.slice none 0 0] #[.int .i64 0, .int .i64 0] #[.int .i64 0, .int .i64 0] (fcells q f) 77 103 53 53 77
  generalize ((((w.alloc (.cells (fcells q f) 77)).alloc (.cells #[.slice none 0 0] 103)).alloc (.cells #[.int .i64 0, .int .i64 0] 53)).alloc (.cells #[.int .i64 0, .int .i64 0] 53)).alloc (.cells (fcells q f) 77) = W3 at b1 b2 b3 b4 hB0 hsz ⊢
  have HSZ := Lib.hid hsz
  clear hsz
  refine wpIn_rangeFunc_ownH rfl (by omega) (gf := 59) (lb := #[.pointer (some ⟨w.heap.size + 1 + 1 + 1 + 1, 0, none⟩)]) rfl trivial (enters_of Tryd.func59 (by kernel_rfl) rfl)
    (holes1_stops _ (by omega) (w.heap.size + 1 + 1 + 1 + 1) f q W3 (by exact b4)) (fun h k => h.trans k) (KS.putObj (fun i hi => by simp at hi; have := HSZ.out; omega)) (Below.refl _ _) (fun _ => rfl)
    (fun pre W => pre = [] ∧ Blk W (w.heap.size + 1 + 1 + 1 + 1) (fcells q f) 77 ∧ Blk W (w.heap.size + 1) #[.slice none 0 0] 103 ∧ Blk W (w.heap.size + 1 + 1) #[.int .i64 0, .int .i64 0] 53 ∧ Blk W (w.heap.size + 1 + 1 + 1) #[.int .i64 0, .int .i64 0] 53 ∧ Below w.heap.size w W)
    (fun c pre W => (c = .exit 0 ∧ pre.length = 1) ∧ Blk W (w.heap.size + 1 + 1) #[.int .i64 0, .int .i64 0] 53 ∧ Blk W (w.heap.size + 1 + 1 + 1) (hole2 (rawH pre).head?) 53 ∧ Below w.heap.size w W)
    ((ownFrom_pure _ _).and (((blk_own _ _ _).from _).and (((blk_own _ _ _).from _).and (((blk_own _ _ _).from _).and (((blk_own _ _ _).from _).and (ownFrom_below (Nat.le_refl _) (by have := HSZ.out; omega)))))))
    (fun c => (ownFrom_pure _ _).and (((blk_own _ _ _).from _).and (((blk_own _ _ _).from _).and (ownFrom_below (Nat.le_refl _) (by have := HSZ.out; omega)))))
    ⟨rfl, b4, b1, b2, b3, hB0⟩
    (fun x a' W => ∃ Bx, (w.heap.size + 1 + 1 + 1 + 1 < Bx ∧ a' = { tmps := #[.agg (fcells q f), .slice none 0 0, .pointer (some ⟨w.heap.size, 0, none⟩), .pointer (some ⟨w.heap.size + 1, 0, none⟩), .pointer (some ⟨w.heap.size + 1 + 1, 0, none⟩), .bool false, .pointer (some ⟨w.heap.size + 1 + 1 + 1, 0, none⟩), .pointer (some ⟨Bx, 0, none⟩), undef, undef, .agg (fcells q f), .func (.func 59) #[] #[.pointer (some ⟨w.heap.size + 1 + 1 + 1 + 1, 0, none⟩)], .agg #[.int .i64 ((x.1.1 : Nat) : Int), .int .i64 ((x.1.2 : Nat) : Int)], undef, undef, undef, undef, undef, undef, undef, undef, undef, undef, undef, undef, undef, undef, undef, undef], defers := [] }) ∧ Blk W Bx #[.int .i64 ((x.1.1 : Nat) : Int), .int .i64 ((x.1.2 : Nat) : Int)] 53)
    (fun x a' s A B row hs hg hr => by obtain ⟨Bx, h1, h2⟩ := hs; exact ⟨Bx, h1, (blk_own (β := Unit) _ _ (fun _ => #[.int .i64 ((x.1.1 : Nat) : Int), .int .i64 ((x.1.2 : Nat) : Int)])).from _ () A B row h2 hg hr⟩)
    ?assign ?body ?done ?stop
  case assign =>
    rintro l pre x W K ⟨g0, g1, g2, g3, g4, g5⟩ hK
    have hW := g1.lt
    gi_wp2
    exact hK _ _ ((KeepsOthers.alloc _ _).from _) (KS.alloc _ _ (fun i hi => by simp at hi; omega)) ⟨g0, g1.alloc _, g2.alloc _, g3.alloc _, g4.alloc _, g5.alloc g5.size _⟩ ⟨W.heap.size, ⟨g1.lt, rfl⟩, Blk.new W _ _⟩
  case body =>
    rintro l pre x a' W hl _ ⟨rfl, g1, g2, g3, g4, g5⟩ ⟨Bx, ⟨hBx, rfl⟩, bX⟩ hlen
    have c3 : W.cell? ⟨Bx, 0, none⟩ = some (.int .i64 ((x.1.1 : Nat) : Int)) := bX.cell rfl
    have c4 : W.cell? ⟨Bx, 1, none⟩ = some (.int .i64 ((x.1.2 : Nat) : Int)) := bX.cell rfl
    have c2 : W.cell? ⟨w.heap.size + 1, 0, none⟩ = some (.slice none 0 0) := g2.cell rfl
    have c5 : W.cell? ⟨w.heap.size + 1 + 1 + 1, 0, none⟩ = some (.int .i64 0) := g4.cell rfl
    have c6 : W.cell? ⟨w.heap.size + 1 + 1 + 1, 1, none⟩ = some (.int .i64 0) := g4.cell rfl
    have f2 := g4.frozen 0
    have f3 := g4.frozen 1
    gi_wp2
    refine wpIn_loop_once ?_
    gi_wp2
    exact ⟨((KeepsOthers.setCell _ _ _).trans (KeepsOthers.setCell _ _ _)).from _, ⟨rfl, rfl⟩, (g3.other (by omega) _ _).other (by omega) _ _, (g4.set 0 _).set 1 _, (g5.setCell (p := ⟨w.heap.size + 1 + 1 + 1, 0, none⟩) (by simp; omega) _).setCell (p := ⟨w.heap.size + 1 + 1 + 1, 1, none⟩) (by simp; omega) _⟩
  case done =>
    rintro D xs W hD hS ⟨rfl, g1, g2, g3, g4, g5⟩ hK
    have c1 : W.cell? ⟨w.heap.size + 1 + 1, 0, none⟩ = some (.int .i64 0) := g3.cell rfl
    have c2 : W.cell? ⟨w.heap.size + 1 + 1, 1, none⟩ = some (.int .i64 0) := g3.cell rfl
    have c5 : W.cell? ⟨w.heap.size + 1 + 1 + 1, 0, none⟩ = some (.int .i64 0) := g4.cell rfl
    have c6 : W.cell? ⟨w.heap.size + 1 + 1 + 1, 1, none⟩ = some (.int .i64 0) := g4.cell rfl
    have f2 := g3.frozen 0
    have f3 := g3.frozen 1
    gi_wp2
    go_wp2
    go_region
    all_goals go_wp2
    all_goals (try rw [Exit.noGoto_ret])
    all_goals exact first_end q f w W W3 D none 0 0 rfl (by rw [← hS]; rfl) (by have := HSZ.out; omega) hD hK g3 g5 _ rfl rfl
  case stop =>
    rintro D c pre W hD hSp ⟨⟨rfl, hp⟩, g3, g4, g5⟩ hK
    obtain ⟨x, rfl⟩ : ∃ x, pre = [x] := List.length_eq_one_iff.1 hp
    have hh : (holesZ q f).head? = some x.1 := by obtain ⟨t, ht⟩ := hSp; rw [← ht]; rfl
    have hx := x.2
    have hne : ((x.1.2 : Nat) : Int) ≠ 0 := by omega
    have c1 : W.cell? ⟨w.heap.size + 1 + 1, 0, none⟩ = some (.int .i64 0) := g3.cell rfl
    have c2 : W.cell? ⟨w.heap.size + 1 + 1, 1, none⟩ = some (.int .i64 0) := g3.cell rfl
    have c5 : W.cell? ⟨w.heap.size + 1 + 1 + 1, 0, none⟩ = some (.int .i64 ((x.1.1 : Nat) : Int)) := g4.cell rfl
    have c6 : W.cell? ⟨w.heap.size + 1 + 1 + 1, 1, none⟩ = some (.int .i64 ((x.1.2 : Nat) : Int)) := g4.cell rfl
    have f2 := g3.frozen 0
    have f3 := g3.frozen 1
    gi_wp2
    go_wp2
    go_region
    all_goals go_wp2
    all_goals (try rw [Exit.noGoto_ret])
    all_goals exact first_end q f w W W3 D (some x.1) _ _ rfl hh (by have := HSZ.out; omega) hD hK g3 g5 _ rfl rfl
end Go.Proofs.YtanccoahpcfbnaaDoor
