/-
  hole.All: the holes of a table, rising, in memory of the call's own; what lay in memory stays.
-/
import Derived.Test.YtanccoahpcfbnaaDoorHoleF
namespace Go.Proofs.YtanccoahpcfbnaaDoor
open Go.RowKit Go.Lib Go.Shelf
attribute [local go_sem] Oper.semAt_some

def zeros64 : Array Value := Array.replicate 64 (.int .i64 0)
theorem Tryd.infoHole : (Tryd.prog.info? 53).map (fun i => (i.size, i.bytes)) = some (2, 16) := by kernel_rfl
theorem mkH (W : World) : (Instr.makeSlice 49 (.int .i64 0) (.int .i64 32)).run Tryd.prog W = .ok (.slice (some ⟨W.heap.size, 0, none⟩) 0 32) (W.alloc (.cells zeros64 53)) := by kernel_rfl
/-- Holes, as numbers. -/
def hvals : List (Nat × Nat) → List Value
  | [] => []
  | p :: ps => .int .i64 ((p.1 : Nat) : Int) :: .int .i64 ((p.2 : Nat) : Int) :: hvals ps
theorem hvals_append (a b : List (Nat × Nat)) : hvals (a ++ b) = hvals a ++ hvals b := by
  induction a with
  | nil => rfl
  | cons x a ih => simp [hvals, ih]
theorem hvals_len (a : List (Nat × Nat)) : (hvals a).length = a.length * 2 := by
  induction a with
  | nil => rfl
  | cons x a ih => simp [hvals, ih]; omega
theorem hvals_from (a : List (Nat × Nat)) : ∀ (i : Nat) (p : Nat × Nat), a[i]? = some p → (hvals a)[2 * i]? = some (.int .i64 ((p.1 : Nat) : Int)) ∧ (hvals a)[2 * i + 1]? = some (.int .i64 ((p.2 : Nat) : Int)) := by
  induction a with
  | nil => intro i p h; simp at h
  | cons x a ih =>
    intro i p h
    cases i with
    | zero => simp at h; subst h; exact ⟨rfl, rfl⟩
    | succ i =>
      simp at h
      have := ih i p h
      have e1 : 2 * (i + 1) = 2 * i + 1 + 1 := by omega
      rw [e1]
      exact this
theorem rawH_len (xs : List Hl) : (rawH xs).length = xs.length := by simp [rawH]
theorem cell_two_new (w : World) (x y : Value) (t : TypeId) : ∀ j u, [x, y][j]? = some u → (w.alloc (.cells #[x, y] t)).cell? ((⟨w.heap.size, 0, none⟩ : Addr).add j) = some u := by
  intro j u hj
  match j, hj with
  | 0, hj => simp at hj; subst hj; exact (Blk.new w #[x, y] t).cell rfl
  | 1, hj => simp at hj; subst hj; exact (Blk.new w #[x, y] t).cell rfl
/-- A list of holes in memory of the call's own. -/
def HolesAt (w w' : World) (g : Nat) (ps : List (Nat × Nat)) : Prop := ∃ cap, w'.ownsRow w.heap.size 53 2 (.slice (some ⟨g, 0, none⟩) ps.length cap) ps.length (hvals ps)
def AllPost (w : World) (ps : List (Nat × Nat)) (e : Ending) (w' : World) : Prop := ∃ g, e = .returned (.tuple #[.slice (some ⟨g, 0, none⟩) ps.length ps.length, .int .i64 0]) ∧ HolesAt w w' g ps ∧ Below w.heap.size w w'

set_option maxRecDepth 100000 in
set_option maxHeartbeats 2000000 in
theorem all_yes (b o cap : Nat) (z : Nat → Int) (w : World) (hT : Tab w b o z) (hr : rightT z = true) :
    Calls Tryd.prog 30 #[.slice (some ⟨b, o, none⟩) 32 cap] w (AllPost w (holesZ (keptZ z) 0)) := by
  have HT := Lib.hid hT
  have HR := Lib.hid hr
  clear hT hr
  obtain ⟨i0, hi, hz1, hz2⟩ : ∃ i, Tryd.prog.info? 53 = some i ∧ i.size = 2 ∧ i.bytes = 16 := by
    have := Tryd.infoHole
    cases h : Tryd.prog.info? 53 with
    | none => rw [h] at this; simp at this
    | some i => rw [h] at this; simp at this; exact ⟨i, rfl, this.1, this.2⟩
  have hmk := mkH
  refine (callsIn_wide (n := 9)).1 ?_
  refine callsIn_of_wp_marks Tryd.func30 rfl trivial ?_ rfl
  simp only [Tryd.ntmps30, List.size_toArray, List.length_cons, List.length_nil, Nat.reduceAdd, Nat.reduceSub, Array.replicate_succ, Array.replicate_zero, List.push_toArray, List.append_toArray, List.nil_append, List.cons_append]
  refine wpIn_wide.2 ?_
  go_wp2_with (first
    | (go_at_call 46; ((with_reducible refine (look_yes b o cap z 0 _ HT.out HR.out).mono ?_)); rintro e w1 ⟨rfl, hb1⟩; have HB1 := Lib.hid hb1; clear hb1)
    | (refine wpList_store_new rfl 77 _ _ rfl _ (fcells (keptZ z) 0) 77 rfl rfl (by rw [fcells_size]; exact Tryd.infoFinder) (by rw [fcells_size]; rfl) (fcells_one _ _) ?_; intro W2 bF bK hB2 hs2; have HB2 := Lib.hid (bstep HB1.out hB2); clear bK hB2 hs2)
    | (refine wpList_load_row rfl 77 _ rfl _ rfl 77 _ (0, 0) _ ((bF.alloc _).alloc _) Tryd.underlying77 rfl (by rw [fcells_size]; exact Tryd.infoFinder) ?_)
    | (go_at_call 47; ((with_reducible refine (holes_any _ _ _).mono ?_)); rintro e w' ⟨rfl, rfl⟩))
  refine (wpIn_wide (n := 9)).1 ?_
  obtain ⟨b0, b1, b2, hB', hsz⟩ := blk3 W2 zeros64 #[.slice (some ⟨W2.heap.size, 0, none⟩) 0 32] (fcells (keptZ z) 0) 53 49 77
  have hB3 := bstep HB2.out hB'
  have hle : w.heap.size ≤ W2.heap.size := HB2.out.size
  clear hB' bF HB1 hmk
  generalize ((W2.alloc (.cells zeros64 53)).alloc (.cells #[.slice (some ⟨W2.heap.size, 0, none⟩) 0 32] 49)).alloc (.cells (fcells (keptZ z) 0) 77) = W3 at b0 b1 b2 hB3 hsz ⊢
  have HSZ := Lib.hid hsz
  clear hsz
  have hown0 : W3.ownsRow w.heap.size 53 2 (.slice (some ⟨W2.heap.size, 0, none⟩) 0 32) 0 [] := ⟨rfl, .inr ⟨W2.heap.size, 32, zeros64, rfl, by omega, b0, by omega, by unfold maxLen; omega, by simp [zeros64], rfl⟩⟩
  refine wpIn_rangeFunc_ownH rfl (by omega) (gf := 59) (lb := #[.pointer (some ⟨W2.heap.size + 1 + 1, 0, none⟩)]) rfl trivial (enters_of Tryd.func59 (by kernel_rfl) rfl)
    (holes1_stops _ (by omega) (W2.heap.size + 1 + 1) 0 (keptZ z) W3 (by exact b2)) (fun h k => h.trans k) (KS.putObj (fun i hi => by simp at hi; have := HSZ.out; omega)) (Below.refl _ _) (fun _ => rfl)
    (fun pre W => Blk W (W2.heap.size + 1 + 1) (fcells (keptZ z) 0) 77 ∧ Blk W (W2.heap.size + 1) #[.slice (some ⟨W2.heap.size, 0, none⟩) pre.length 32] 49 ∧ W.ownsRow w.heap.size 53 2 (.slice (some ⟨W2.heap.size, 0, none⟩) pre.length 32) pre.length (hvals (rawH pre)) ∧ Below w.heap.size w W)
    (fun _ _ _ => False)
    (((blk_own _ _ _).from _).and (((blk_own _ _ _).from _).and (((row_own _ _ _ _ _ _ _).from _).and (ownFrom_below (Nat.le_refl _) (by have := HSZ.out; omega)))))
    (fun c _ _ _ _ hs _ _ => hs)
    ⟨b2, b1, hown0, hB3⟩
    (fun x a' W => ∃ Bx, (W2.heap.size + 1 + 1 < Bx ∧ a' = { tmps := #[.slice (some ⟨b, o, none⟩) 32 cap, undef, .slice none 0 0, .int .i64 0, .pointer (some ⟨w1.heap.size, 0, none⟩), .bool true, .pointer (some ⟨W2.heap.size + 1, 0, none⟩), .pointer (some ⟨Bx, 0, none⟩), .tuple #[.agg (fcells (keptZ z) 0), .bool true], .slice (some ⟨b, o, none⟩) 32 cap, .tuple #[.agg (fcells (keptZ z) 0), .bool true], .agg (fcells (keptZ z) 0), .bool true, .bool true, .bool false, .slice (some ⟨W2.heap.size, 0, none⟩) 0 32, .agg (fcells (keptZ z) 0), .func (.func 59) #[] #[.pointer (some ⟨W2.heap.size + 1 + 1, 0, none⟩)], .agg #[.int .i64 ((x.1.1 : Nat) : Int), .int .i64 ((x.1.2 : Nat) : Int)], undef, undef, undef, undef, undef, undef, undef, undef, undef, undef], defers := [] }) ∧ Blk W Bx #[.int .i64 ((x.1.1 : Nat) : Int), .int .i64 ((x.1.2 : Nat) : Int)] 53)
    (fun x a' s A B row hs hg hr => by obtain ⟨Bx, h1, h2⟩ := hs; exact ⟨Bx, h1, (blk_own (β := Unit) _ _ (fun _ => #[.int .i64 ((x.1.1 : Nat) : Int), .int .i64 ((x.1.2 : Nat) : Int)])).from _ () A B row h2 hg hr⟩)
    ?assign ?body ?done ?stop
  case assign =>
    rintro l pre x W K ⟨g1, g2, g3, g4⟩ hK
    have hW := g1.lt
    gi_wp2
    exact hK _ _ ((KeepsOthers.alloc _ _).from _) (KS.alloc _ _ (fun i hi => by simp at hi; omega)) ⟨g1.alloc _, g2.alloc _, g3.alloc _, g4.alloc g4.size _⟩ ⟨W.heap.size, ⟨g1.lt, rfl⟩, Blk.new W _ _⟩
  case body =>
    rintro l pre x a' W hl _ ⟨g1, g2, hown, g4⟩ ⟨Bx, ⟨hBx, rfl⟩, bX⟩ hlen
    have c3 : W.cell? ⟨Bx, 0, none⟩ = some (.int .i64 ((x.1.1 : Nat) : Int)) := bX.cell rfl
    have c4 : W.cell? ⟨Bx, 1, none⟩ = some (.int .i64 ((x.1.2 : Nat) : Int)) := bX.cell rfl
    have c2 : W.cell? ⟨W2.heap.size + 1, 0, none⟩ = some (.slice (some ⟨W2.heap.size, 0, none⟩) pre.length 32) := g2.cell rfl
    have f2 := g2.frozen 0
    have hN := g2.lt
    have hX := bX.lt
    have hg1 := g1.lt
    gi_wp2_with (gi_at_builtin; refine wpListIn_append_fits _ rfl _ _ 49 rfl w.heap.size 53 i0 2 Tryd.underlying49 hi hz1 W2.heap.size pre.length 32 (hvals (rawH pre)) rfl (hown.alloc _) ⟨W.heap.size, 0, none⟩ 1 1 [.int .i64 ((x.1.1 : Nat) : Int), .int .i64 ((x.1.2 : Nat) : Int)] rfl rfl (cell_two_new _ _ _ _) (by simp [Value.oneCell']) (by omega) ?_; intro w2 hown2 hgrow2; have c3 := ((g2.alloc (.cells #[.int .i64 ((x.1.1 : Nat) : Int), .int .i64 ((x.1.2 : Nat) : Int)] 53)).grown hgrow2 (by intro e; injection e; omega)).cell (k := 0) rfl; have f3 := ((g2.alloc (.cells #[.int .i64 ((x.1.1 : Nat) : Int), .int .i64 ((x.1.2 : Nat) : Int)] 53)).grown hgrow2 (by intro e; injection e; omega)).frozen 0; clear c2 f2)
    have hl : (pre ++ [x]).length = pre.length + 1 := by simp
    have hz := HSZ.out
    refine ⟨(((KeepsOthers.alloc _ _).from _).trans (KeepsFrom.of_grownBy hgrow2 (fun j ej => by cases ej; omega))).trans ((KeepsOthers.setCell _ _ _).from _), ?_, ?_, ?_, ?_, ?_⟩
    · refine ((KS.alloc W _ ?_).trans (KS.grown hgrow2 ?_)).trans (KS.setCell _ _ _ _ ?_)
      · intro i hi; simp at hi; omega
      · intro i hi; simp at hi; simp; omega
      · intro i hi; simp at hi; omega
    · exact ((g1.alloc _).grown hgrow2 (by intro e; injection e; omega)).other (by omega) _ _
    · rw [hl]; exact ((g2.alloc _).grown hgrow2 (by intro e; injection e; omega)).set 0 _
    · rw [hl, rawH_snoc, hvals_append]; exact hown2.kept (grownBy_setCell' w2 _ _) (.inr (by intro e; simp [Value.ownBlock] at e))
    · exact (((g4.alloc g4.size _).grown hgrow2 (by simp; have := g4.size; omega) (fun k ek => by cases ek; omega))).setCell (p := ⟨W2.heap.size + 1, 0, none⟩) (by simp; omega) _
  case done =>
    rintro D xs W hD hS ⟨g1, g2, hown, g4⟩ hK
    rw [← rawH_len] at g2 hown
    rw [hS] at g2 hown
    clear hS
    have hlz := holesZ_len (keptZ z) 32 0 (by omega)
    generalize hP : holesZ (keptZ z) 0 = ps at g2 hown hlz ⊢
    have c2 : W.cell? ⟨W2.heap.size + 1, 0, none⟩ = some (.slice (some ⟨W2.heap.size, 0, none⟩) ps.length 32) := g2.cell rfl
    gi_wp2
    go_wp2
    refine ⟨by simp, .inl ⟨_, _, rfl, run_takeDeferred hK, ?_⟩⟩
    subst hP
    exact ⟨_, results_tmp2 rfl _ _ _, _, rfl, ⟨_, ownsRow_putObj hown _ hK rfl⟩, g4.trans (belowK_b (w := W3) (by have := HSZ.out; omega) _ D _ _ hD hK rfl rfl)⟩
  case stop =>
    rintro D c pre W _ _ h _
    exact h.elim
end Go.Proofs.YtanccoahpcfbnaaDoor
