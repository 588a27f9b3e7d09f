/-
  marks.Lines, for every list: the kept lines of a table, rising; none, if it is no table; what lay in memory stays.
-/
import Derived.Test.YtanccoahpcfbnaaDoorMarksC
import Derived.Maps.AppendAt
namespace Go.Proofs.YtanccoahpcfbnaaDoor
open Go.RowKit Go.Lib Go.Shelf
attribute [local go_sem] Oper.semAt_some

theorem right_yes (b o cap : Nat) (z : Nat → Int) (w : World) (hT : Tab w b o z) (h : rightT z = true) :
    Calls Tryd.prog 41 #[.slice (some ⟨b, o, none⟩) 32 cap] w fun e w' => e = .returned (.bool true) ∧ Below w.heap.size w w' := by
  have := right_tab b o cap z w hT; rwa [h] at this
theorem right_no (b o cap : Nat) (z : Nat → Int) (w : World) (hT : Tab w b o z) (h : rightT z = false) :
    Calls Tryd.prog 41 #[.slice (some ⟨b, o, none⟩) 32 cap] w fun e w' => e = .returned (.bool false) ∧ Below w.heap.size w w' := by
  have := right_tab b o cap z w hT; rwa [h] at this

def zeros32 : Array Value := Array.replicate 32 (.int .i64 0)
/-- The lines, as numbers. -/
def vals (xs : List (Fin 32)) : List Value := xs.map fun x => .int .i64 ((x.val : Nat) : Int)
theorem vals_snoc (xs : List (Fin 32)) (x : Fin 32) : vals (xs ++ [x]) = vals xs ++ [.int .i64 ((x.val : Nat) : Int)] := by simp [vals]
theorem vals_len (xs : List (Fin 32)) : (vals xs).length = xs.length := by simp [vals]
theorem Tryd.infoInt : (Tryd.prog.info? 3).map (fun i => (i.zero, i.size, i.bytes)) = some (some (.int .i64 0), 1, 8) := by kernel_rfl
theorem mk32 (W : World) : (Instr.makeSlice 35 (.int .i64 0) (.int .i64 32)).run Tryd.prog W = .ok (.slice (some ⟨W.heap.size, 0, none⟩) 0 32) (W.alloc (.cells zeros32 3)) := by kernel_rfl
/-- A list of lines in memory of the call's own. -/
def LinesAt (w w' : World) (v : Value) (xs : List (Fin 32)) : Prop := ∃ g, v = .slice (some ⟨g, 0, none⟩) xs.length 32 ∧ w'.ownsRow w.heap.size 3 1 v xs.length (vals xs)
def LinesPost (w : World) (xs : List (Fin 32)) (e : Ending) (w' : World) : Prop := ∃ v, e = .returned v ∧ LinesAt w w' v xs ∧ Below w.heap.size w w'

set_option maxRecDepth 100000 in
set_option maxHeartbeats 2000000 in
theorem lines_yes (b o cap : Nat) (z : Nat → Int) (w : World) (hT : Tab w b o z) (hr : rightT z = true) :
    Calls Tryd.prog 58 #[.slice (some ⟨b, o, none⟩) 32 cap] w (LinesPost w (keptL z 32)) := by
  have HT := Lib.hid hT
  have HR := Lib.hid hr
  have hbw := hT.lt
  clear hT hr
  obtain ⟨i0, hi, hz0, hz1, hz2⟩ := info_parts Tryd.infoInt
  have hmk := mk32
  refine (callsIn_wide (n := 9)).1 ?_
  refine callsIn_of_wp_marks Tryd.func58 rfl trivial ?_ rfl
  simp only [Tryd.ntmps58, List.size_toArray, List.length_cons, List.length_nil, Nat.reduceAdd, Nat.reduceSub, Array.replicate_succ, Array.replicate_zero, List.push_toArray, List.append_toArray, List.nil_append, List.cons_append]
  gi_wp2_with (first
    | (refine ⟨trivial, ?_⟩; gi_at_call 41; ((with_reducible refine (callsIn_wide.2 (right_yes b o cap z _ HT.out HR.out)).mono ?_)); rintro e w1 ⟨rfl, hb1⟩; have HB1 := Lib.hid hb1; clear hb1)
    | (refine ⟨trivial, ?_⟩; gi_at_call 64; ((with_reducible refine (callsIn_wide.2 (all_any _ _ _ _ rfl _)).mono ?_)); rintro e w' ⟨rfl, rfl⟩))
  obtain ⟨b0, b1, b2, b3, hB0, hsz⟩ := blk4 w1 #[.slice (some ⟨b, o, none⟩) 32 cap] zeros32 #[.slice (some ⟨w1.heap.size + 1, 0, none⟩) 0 32] #[.slice (some ⟨b, o, none⟩) 32 cap] 105 3 35 68
  have hTw := (HT.out.below HB1.out).below hB0
  have hB1 := bstep HB1.out hB0
  have hww : w.heap.size ≤ w1.heap.size := HB1.out.size
  clear hmk
  generalize ((((w1.alloc (.cells #[.slice (some ⟨b, o, none⟩) 32 cap] 105)).alloc (.cells zeros32 3)).alloc (.cells #[.slice (some ⟨w1.heap.size + 1, 0, none⟩) 0 32] 35)).alloc (.cells #[.slice (some ⟨b, o, none⟩) 32 cap] 68)) = W0 at b0 b1 b2 b3 hB0 hsz hTw hB1 ⊢
  have HSZ := Lib.hid hsz
  clear hsz hB0 b0
  have hown0 : W0.ownsRow w.heap.size 3 1 (.slice (some ⟨w1.heap.size + 1, 0, none⟩) 0 32) 0 [] := ⟨rfl, .inr ⟨w1.heap.size + 1, 32, zeros32, rfl, by omega, b1, by omega, by unfold maxLen; omega, by simp [zeros32], rfl⟩⟩
  refine wpIn_rangeFunc_ownG rfl (by omega) (gf := 66) (lb := #[.pointer (some ⟨w1.heap.size + 1 + 1 + 1, 0, none⟩)]) rfl trivial (enters_of Tryd.func66 (by kernel_rfl) rfl)
    (all1_stops _ (by omega) _ b o cap z _ (b3.cell rfl) hTw) (fun h k => h.trans k) (KS.putObj (fun i hi => by simp at hi; have := HSZ.out; omega)) (Below.refl _ _) (fun _ => rfl)
    (fun pre W => Blk W (w1.heap.size + 1 + 1 + 1) #[.slice (some ⟨b, o, none⟩) 32 cap] 68 ∧ Blk W (w1.heap.size + 1 + 1) #[.slice (some ⟨w1.heap.size + 1, 0, none⟩) pre.length 32] 35 ∧ W.ownsRow w.heap.size 3 1 (.slice (some ⟨w1.heap.size + 1, 0, none⟩) pre.length 32) pre.length (vals pre) ∧ Below w.heap.size w W)
    (fun _ _ _ => False)
    (((blk_own _ _ _).from _).and (((blk_own _ _ _).from _).and (((row_own _ _ _ _ _ _ _).from _).and (ownFrom_below (Nat.le_refl _) (by have := HSZ.out; omega)))))
    (fun c _ _ _ _ hs _ _ => hs)
    ⟨b3, b2, hown0, hB1⟩
    (fun x => { tmps := #[.slice (some ⟨b, o, none⟩) 32 cap, undef, .slice none 0 0, .pointer (some ⟨w1.heap.size, 0, none⟩), .pointer (some ⟨w1.heap.size + 1 + 1, 0, none⟩), .int .i64 ((x.val : Nat) : Int), .slice (some ⟨b, o, none⟩) 32 cap, .bool true, .bool false, .slice (some ⟨b, o, none⟩) 32 cap, .agg #[.slice (some ⟨b, o, none⟩) 32 cap], .slice (some ⟨w1.heap.size + 1, 0, none⟩) 0 32, .pointer (some ⟨w1.heap.size, 0, none⟩), .slice (some ⟨b, o, none⟩) 32 cap, .func (.func 66) #[] #[.pointer (some ⟨w1.heap.size + 1 + 1 + 1, 0, none⟩)], .int .i64 ((x.val : Nat) : Int), undef, undef, undef, undef, undef], defers := [] }) ?assign ?body ?done ?stop
  case assign =>
    intro l x W K hK
    gi_wp2
    exact hK
  case body =>
    rintro l pre x W ⟨gA, g2, hown, g3⟩ hlen
    have c2 : W.cell? ⟨w1.heap.size + 1 + 1, 0, none⟩ = some (.slice (some ⟨w1.heap.size + 1, 0, none⟩) pre.length 32) := g2.cell rfl
    have f2 := g2.frozen 0
    have hl2 := g2.lt
    gi_wp2_with (gi_at_builtin; refine wpListIn_append_fits _ rfl _ _ 35 rfl w.heap.size 3 i0 1 Tryd.underlying35 hi hz1 (w1.heap.size + 1) pre.length 32 (vals pre) rfl (hown.alloc _) ⟨W.heap.size, 0, none⟩ 1 1 [.int .i64 ((x.val : Nat) : Int)] rfl rfl (cell_one_new _ _ _) (by simp [Value.oneCell']) (by omega) ?_; intro w2 hown2 hgrow2; have c3 := ((g2.alloc (.cells #[.int .i64 ((x.val : Nat) : Int)] 3)).grown hgrow2 (by intro e; injection e; omega)).cell (k := 0) rfl; have f3 := ((g2.alloc (.cells #[.int .i64 ((x.val : Nat) : Int)] 3)).grown hgrow2 (by intro e; injection e; omega)).frozen 0; clear c2 f2)
    have hl : (pre ++ [x]).length = pre.length + 1 := by simp
    have hAlt := gA.lt
    have hbW : b < W.heap.size := Nat.lt_of_lt_of_le hbw g3.size
    have hz := HSZ.out
    refine ⟨(((KeepsOthers.alloc _ _).from _).trans (KeepsFrom.of_grownBy hgrow2 (fun j ej => by cases ej; omega))).trans ((KeepsOthers.setCell _ _ _).from _), ?_, ?_, ?_, ?_, ?_⟩
    · refine ((KS.alloc W _ ?_).trans (KS.grown hgrow2 ?_)).trans (KS.setCell _ _ _ _ ?_)
      · intro i hi; simp at hi; omega
      · intro i hi; simp at hi; simp; omega
      · intro i hi; simp at hi; omega
    · exact ((gA.alloc _).grown hgrow2 (by intro e; injection e; omega)).other (by omega) _ _
    · rw [hl]; exact ((g2.alloc _).grown hgrow2 (by intro e; injection e; omega)).set 0 _
    · rw [hl, vals_snoc]; exact hown2.kept (grownBy_setCell' w2 _ _) (.inr (by intro e; simp [Value.ownBlock] at e))
    · exact (((g3.alloc g3.size _).grown hgrow2 (by simp; have := g3.size; omega) (fun k ek => by cases ek; omega))).setCell (p := ⟨w1.heap.size + 1 + 1, 0, none⟩) (by simp; omega) _
  case done =>
    rintro D xs W hD rfl ⟨_, g2, hown, g3⟩ hK
    have c2 : W.cell? ⟨w1.heap.size + 1 + 1, 0, none⟩ = some (.slice (some ⟨w1.heap.size + 1, 0, none⟩) (keptL z 32).length 32) := g2.cell rfl
    gi_wp2
    refine ⟨by simp, .inl ⟨_, _, rfl, run_takeDeferred hK, ?_⟩⟩
    exact ⟨_, results_tmp rfl _ _ _, _, rfl, ⟨_, rfl, ownsRow_putObj hown _ hK rfl⟩, g3.trans (belowK_b (w := W0) (by have := HSZ.out; omega) _ D _ _ hD hK rfl rfl)⟩
  case stop =>
    rintro D c pre W _ _ h _
    exact h.elim
end Go.Proofs.YtanccoahpcfbnaaDoor
