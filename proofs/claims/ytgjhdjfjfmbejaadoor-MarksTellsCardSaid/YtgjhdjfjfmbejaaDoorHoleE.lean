/-
  hole.Longest: how many lines the longest hole of a table has; what lay in memory stays.
-/
import Derived.Test.YtgjhdjfjfmbejaaDoorHoleD
namespace Go.Proofs.YtgjhdjfjfmbejaaDoor
open Go.RowKit Go.Lib Go.Shelf
attribute [local go_sem] Oper.semAt_some

theorem KS.drewr {S : List Nat} {W X : World} (h : KS S W X) : KS S W X.drew := ⟨h.1, h.2⟩
/-- The length of the longest one of some holes. -/
def maxH (ps : List (Nat × Nat)) : Nat := ps.foldl (fun m p => max m (p.2 - p.1)) 0
theorem maxH_snoc (xs : List Hl) (x : Hl) : maxH (rawH (xs ++ [x])) = max (maxH (rawH xs)) (x.1.2 - x.1.1) := by simp [maxH, rawH, List.foldl_append]
theorem foldmax_le (ps : List (Nat × Nat)) (h : ∀ p ∈ ps, p.2 - p.1 ≤ 32) : ∀ m, m ≤ 32 → ps.foldl (fun m p => max m (p.2 - p.1)) m ≤ 32 := by
  induction ps with
  | nil => exact fun m hm => hm
  | cons p ps ih =>
    intro m hm
    have := h p (List.mem_cons_self)
    exact ih (fun q hq => h q (List.mem_cons_of_mem _ hq)) _ (Nat.max_le.2 ⟨hm, this⟩)
theorem maxH_le (xs : List Hl) : maxH (rawH xs) ≤ 32 := foldmax_le _ (fun p hp => by obtain ⟨x, _, rfl⟩ := List.mem_map.1 hp; have := x.2; omega) 0 (by omega)

set_option maxRecDepth 100000 in
set_option maxHeartbeats 2000000 in
theorem longest_yes (b o cap : Nat) (z : Nat → Int) (w : World) (hT : Tab w b o z) (hr : rightT z = true) :
    Calls Tryd.prog 45 #[.slice (some ⟨b, o, none⟩) 32 cap] w fun e w' => e = .returned (.int .i64 (maxH (holesZ (keptZ z) 0) : Int)) ∧ Below w.heap.size w w' := by
  have HT := Lib.hid hT
  have HR := Lib.hid hr
  clear hT hr
  refine (callsIn_wide (n := 9)).1 ?_
  refine callsIn_of_wp_marks Tryd.func45 rfl trivial ?_ rfl
  simp only [Tryd.ntmps45, List.size_toArray, List.length_cons, List.length_nil, Nat.reduceAdd, Nat.reduceSub, Array.replicate_succ, Array.replicate_zero, List.push_toArray, List.append_toArray, List.nil_append, List.cons_append]
  refine wpIn_wide.2 ?_
  go_wp2_with (first
    | (go_at_call 46; ((with_reducible refine (look_yes b o cap z 0 _ ?_ HR.out).mono ?_)); exact HT.out.below ((Below.refl _ w).alloc (Nat.le_refl _) _); rintro e w1 ⟨rfl, hb1⟩; have bS : Blk w1 w.heap.size #[.int .i64 0] 3 := (Blk.new w _ _).below' hb1; have HB1 := Lib.hid (bstep ((Below.refl _ w).alloc (Nat.le_refl _) _) hb1); clear hb1)
    | (refine wpList_store_new rfl 72 _ _ rfl _ (fcells (keptZ z) 0) 72 rfl rfl (by rw [fcells_size]; exact Tryd.infoFinder) (by rw [fcells_size]; rfl) (fcells_one _ _) ?_; intro W2 bF bK hB2 hs2; have bS2 := bK _ _ _ bS; have HB2 := Lib.hid (bstep HB1.out hB2); clear bK hB2 hs2)
    | (refine wpList_load_row rfl 72 _ rfl _ rfl 72 _ (0, 0) _ bF Tryd.underlying72 rfl (by rw [fcells_size]; exact Tryd.infoFinder) ?_)
    | (go_at_call 48; ((with_reducible refine (holes_any _ _ _).mono ?_)); rintro e w' ⟨rfl, rfl⟩))
  refine (wpIn_wide (n := 9)).1 ?_
  have bH := Blk.new W2 (fcells (keptZ z) 0) 72
  have hSH := bS2.lt
  replace bS2 := bS2.alloc (.cells (fcells (keptZ z) 0) 72)
  have hB3 := HB2.out.alloc HB2.out.size (.cells (fcells (keptZ z) 0) 72)
  have hsz : (W2.alloc (.cells (fcells (keptZ z) 0) 72)).heap.size = W2.heap.size + 1 := by simp
  clear bS bF HB1
  generalize W2.alloc (.cells (fcells (keptZ z) 0) 72) = W3 at bH bS2 hB3 hsz ⊢
  have HSZ := Lib.hid hsz
  clear hsz
  have hle : w.heap.size ≤ W2.heap.size := by omega
  refine wpIn_rangeFunc_ownH rfl (by omega) (gf := 58) (lb := #[.pointer (some ⟨W2.heap.size, 0, none⟩)]) rfl trivial (enters_of Tryd.func58 (by kernel_rfl) rfl)
    (holes1_stops _ (by omega) W2.heap.size 0 (keptZ z) W3 (by exact bH)) (fun h k => h.trans k) (KS.putObj (fun i hi => by simp at hi; have := HSZ.out; omega)) (Below.refl _ _) (fun _ => rfl)
    (fun pre W => Blk W W2.heap.size (fcells (keptZ z) 0) 72 ∧ Blk W w.heap.size #[.int .i64 (maxH (rawH pre) : Int)] 3 ∧ Below w.heap.size w W)
    (fun _ _ _ => False)
    (((blk_own _ _ _).from _).and (((blk_own _ _ _).from _).and (ownFrom_below (Nat.le_refl _) (by have := HSZ.out; omega))))
    (fun c _ _ _ _ hs _ _ => hs)
    ⟨bH, bS2, hB3⟩
    (fun x a' W => ∃ Bx, (W2.heap.size < Bx ∧ a' = { tmps := #[.slice (some ⟨b, o, none⟩) 32 cap, undef, .int .i64 0, .pointer (some ⟨w.heap.size, 0, none⟩), .pointer (some ⟨w1.heap.size, 0, none⟩), .bool true, .pointer (some ⟨Bx, 0, none⟩), .tuple #[.agg (fcells (keptZ z) 0), .bool true], .slice (some ⟨b, o, none⟩) 32 cap, .tuple #[.agg (fcells (keptZ z) 0), .bool true], .agg (fcells (keptZ z) 0), .bool true, .bool true, .agg (fcells (keptZ z) 0), .func (.func 58) #[] #[.pointer (some ⟨W2.heap.size, 0, none⟩)], .agg #[.int .i64 ((x.1.1 : Nat) : Int), .int .i64 ((x.1.2 : Nat) : Int)], undef, undef, undef, undef, undef], defers := [] }) ∧ Blk W Bx #[.int .i64 ((x.1.1 : Nat) : Int), .int .i64 ((x.1.2 : Nat) : Int)] 41)
    (fun x a' s A B row hs hg hr => by obtain ⟨Bx, h1, h2⟩ := hs; exact ⟨Bx, h1, (blk_own (β := Unit) _ _ (fun _ => #[.int .i64 ((x.1.1 : Nat) : Int), .int .i64 ((x.1.2 : Nat) : Int)])).from _ () A B row h2 hg hr⟩)
    ?assign ?body ?done ?stop
  case assign =>
    rintro l pre x W K ⟨g1, g2, g4⟩ hK
    have hW := g1.lt
    gi_wp2
    exact hK _ _ ((KeepsOthers.alloc _ _).from _) (KS.alloc _ _ (fun i hi => by simp at hi; omega)) ⟨g1.alloc _, g2.alloc _, g4.alloc g4.size _⟩ ⟨W.heap.size, ⟨g1.lt, rfl⟩, Blk.new W _ _⟩
  case body =>
    rintro l pre x a' W hl _ ⟨g1, g2, g4⟩ ⟨Bx, ⟨hBx, rfl⟩, bX⟩ hlen
    have c2 : W.cell? ⟨w.heap.size, 0, none⟩ = some (.int .i64 (maxH (rawH pre) : Int)) := g2.cell rfl
    have f2 := g2.frozen 0
    have c3 : W.cell? ⟨Bx, 0, none⟩ = some (.int .i64 ((x.1.1 : Nat) : Int)) := bX.cell rfl
    have c4 : W.cell? ⟨Bx, 1, none⟩ = some (.int .i64 ((x.1.2 : Nat) : Int)) := bX.cell rfl
    have hd : 1 ≤ 9 - 1 - 1 := by omega
    have hmx : Tryd.prog.follows .mixedOrders = true := by kernel_rfl
    have hsum := maxH_le pre
    have hxx := x.2
    have hsn := maxH_snoc pre x
    have HSN := Lib.hid hsn
    clear hsn
    have hN := g2.lt
    have hX := bX.lt
    have hg1 := g1.lt
    obtain ⟨d, hdd⟩ : ∃ d : Nat, x.1.2 - x.1.1 = d := ⟨_, rfl⟩
    have hd1 : d ≤ 32 := by omega
    have hlen2 := length_any x
    rw [hdd] at hlen2 HSN
    have HLEN := Lib.hid hlen2
    clear hlen2 hdd
    generalize hS : maxH (rawH pre) = s at c2 hsum HSN
    have hs1 : s ≤ 32 := by omega
    clear hS hsum
    gi_wp2
    gi_region_with_o (first | (gi_at_call 49; refine (CallsIn.inRound l (callsIn_wide.2 (HLEN.out _))).mono ?_; rintro e w' ⟨rfl, rfl⟩) | (refine ⟨trivial, ?_⟩; gi_at_call 49; refine (CallsIn.inRound l (callsIn_wide.2 (HLEN.out _))).mono ?_; rintro e w' ⟨rfl, rfl⟩))
    all_goals gi_wp2
    all_goals
      refine ⟨((KeepsOthers.setCell _ _ _).trans ((KeepsOthers.alloc _ _).trans (KeepsOthers.drew _))).from _, ?_, ((g1.other (by omega) _ _).alloc _).drew, ?_, ((g4.setCell (p := ⟨w.heap.size, 0, none⟩) (by simp) _).alloc (by simp [World.setCell]; omega) _).drew⟩
      · exact KS.drewr ((KS.setCell W w.heap.size 0 _ (fun i hi => by simp at hi; omega)).trans (KS.alloc _ _ (fun i hi => by simp at hi; simp [World.setCell]; omega)))
      · first
          | (rw [HSN.out, Nat.max_eq_left (by omega)]; exact ((g2.set 0 _).alloc _).drew)
          | (rw [HSN.out, Nat.max_eq_right (by omega)]; exact ((g2.set 0 _).alloc _).drew)
  case done =>
    rintro D xs W hD hS ⟨g1, g2, g4⟩ hK
    have c2 : W.cell? ⟨w.heap.size, 0, none⟩ = some (.int .i64 (maxH (rawH xs) : Int)) := g2.cell rfl
    rw [hS] at c2
    clear hS g2
    gi_wp2
    go_wp2
    refine ⟨by simp, .inl ⟨_, _, rfl, run_takeDeferred hK, ?_⟩⟩
    exact ⟨_, results_tmp rfl _ _ _, rfl, g4.trans (belowK_b (w := W3) (by have := HSZ.out; omega) _ D _ _ hD hK rfl rfl)⟩
  case stop =>
    rintro D c pre W _ _ h _
    exact h.elim
end Go.Proofs.YtgjhdjfjfmbejaaDoor
