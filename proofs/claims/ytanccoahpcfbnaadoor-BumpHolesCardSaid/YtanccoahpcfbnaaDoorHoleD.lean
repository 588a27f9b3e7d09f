/-
  hole.Room: how many lines are in the holes of a table; what lay in memory stays.
-/
import Derived.Test.YtanccoahpcfbnaaDoorHoleC
namespace Go.Proofs.YtanccoahpcfbnaaDoor
open Go.RowKit Go.Lib Go.Shelf
attribute [local go_sem] Oper.semAt_some

/-- How many lines some holes have together. -/
def sumH (ps : List (Nat × Nat)) : Nat := (ps.map fun p => p.2 - p.1).sum
theorem sumH_snoc (xs : List Hl) (x : Hl) : sumH (rawH (xs ++ [x])) = sumH (rawH xs) + (x.1.2 - x.1.1) := by simp [sumH, rawH]
theorem sumH_le (xs : List Hl) : sumH (rawH xs) ≤ 32 * xs.length := by
  induction xs with
  | nil => simp [sumH, rawH]
  | cons x xs ih =>
    have := x.2
    simp only [sumH, rawH, List.map_cons, List.sum_cons, List.length_cons] at ih ⊢
    omega
theorem length_any (x : Hl) (w : World) : Calls Tryd.prog 48 #[.agg #[.int .i64 ((x.1.1 : Nat) : Int), .int .i64 ((x.1.2 : Nat) : Int)]] w fun e w' =>
    e = .returned (.int .i64 (((x.1.2 - x.1.1 : Nat) : Nat) : Int)) ∧ w' = w.alloc (.cells #[.int .i64 ((x.1.1 : Nat) : Int), .int .i64 ((x.1.2 : Nat) : Int)] 53) := by
  obtain ⟨⟨a, b⟩, h1, h2⟩ := x
  dsimp only at h1 h2 ⊢
  have hv : ((b - a : Nat) : Int) = (b : Int) - (a : Int) := by omega
  rw [hv]
  clear hv
  go_enter Tryd.func48, Tryd.ntmps48
  go_wp2
  go_ret
  exact ⟨rfl, rfl⟩


set_option maxRecDepth 100000 in
set_option maxHeartbeats 2000000 in
theorem room_yes (b o cap : Nat) (z : Nat → Int) (w : World) (hT : Tab w b o z) (hr : rightT z = true) :
    Calls Tryd.prog 29 #[.slice (some ⟨b, o, none⟩) 32 cap] w fun e w' => e = .returned (.int .i64 (sumH (holesZ (keptZ z) 0) : Int)) ∧ Below w.heap.size w w' := by
  have HT := Lib.hid hT
  have HR := Lib.hid hr
  clear hT hr
  refine (callsIn_wide (n := 9)).1 ?_
  refine callsIn_of_wp_marks Tryd.func29 rfl trivial ?_ rfl
  simp only [Tryd.ntmps29, List.size_toArray, List.length_cons, List.length_nil, Nat.reduceAdd, Nat.reduceSub, Array.replicate_succ, Array.replicate_zero, List.push_toArray, List.append_toArray, List.nil_append, List.cons_append]
  refine wpIn_wide.2 ?_
  go_wp2_with (first
    | (go_at_call 46; ((with_reducible refine (look_yes b o cap z 0 _ ?_ HR.out).mono ?_)); exact HT.out.below ((Below.refl _ w).alloc (Nat.le_refl _) _); rintro e w1 ⟨rfl, hb1⟩; have bS : Blk w1 w.heap.size #[.int .i64 0] 3 := (Blk.new w _ _).below' hb1; have HB1 := Lib.hid (bstep ((Below.refl _ w).alloc (Nat.le_refl _) _) hb1); clear hb1)
    | (refine wpList_store_new rfl 77 _ _ rfl _ (fcells (keptZ z) 0) 77 rfl rfl (by rw [fcells_size]; exact Tryd.infoFinder) (by rw [fcells_size]; rfl) (fcells_one _ _) ?_; intro W2 bF bK hB2 hs2; have bS2 := bK _ _ _ bS; have HB2 := Lib.hid (bstep HB1.out hB2); clear bK hB2 hs2)
    | (refine wpList_load_row rfl 77 _ rfl _ rfl 77 _ (0, 0) _ bF Tryd.underlying77 rfl (by rw [fcells_size]; exact Tryd.infoFinder) ?_)
    | (go_at_call 47; ((with_reducible refine (holes_any _ _ _).mono ?_)); rintro e w' ⟨rfl, rfl⟩))
  refine (wpIn_wide (n := 9)).1 ?_
  have bH := Blk.new W2 (fcells (keptZ z) 0) 77
  have hSH := bS2.lt
  replace bS2 := bS2.alloc (.cells (fcells (keptZ z) 0) 77)
  have hB3 := HB2.out.alloc HB2.out.size (.cells (fcells (keptZ z) 0) 77)
  have hsz : (W2.alloc (.cells (fcells (keptZ z) 0) 77)).heap.size = W2.heap.size + 1 := by simp
  clear bS bF HB1
  generalize W2.alloc (.cells (fcells (keptZ z) 0) 77) = W3 at bH bS2 hB3 hsz ⊢
  have HSZ := Lib.hid hsz
  clear hsz
  have hle : w.heap.size ≤ W2.heap.size := by omega
  refine wpIn_rangeFunc_ownH rfl (by omega) (gf := 59) (lb := #[.pointer (some ⟨W2.heap.size, 0, none⟩)]) rfl trivial (enters_of Tryd.func59 (by kernel_rfl) rfl)
    (holes1_stops _ (by omega) W2.heap.size 0 (keptZ z) W3 (by exact bH)) (fun h k => h.trans k) (KS.putObj (fun i hi => by simp at hi; have := HSZ.out; omega)) (Below.refl _ _) (fun _ => rfl)
    (fun pre W => Blk W W2.heap.size (fcells (keptZ z) 0) 77 ∧ Blk W w.heap.size #[.int .i64 (sumH (rawH pre) : Int)] 3 ∧ Below w.heap.size w W)
    (fun _ _ _ => False)
    (((blk_own _ _ _).from _).and (((blk_own _ _ _).from _).and (ownFrom_below (Nat.le_refl _) (by have := HSZ.out; omega))))
    (fun c _ _ _ _ hs _ _ => hs)
    ⟨bH, bS2, hB3⟩
    (fun x a' W => ∃ Bx, (W2.heap.size < Bx ∧ a' = { tmps := #[.slice (some ⟨b, o, none⟩) 32 cap, undef, .int .i64 0, .pointer (some ⟨w.heap.size, 0, none⟩), .pointer (some ⟨w1.heap.size, 0, none⟩), .bool true, .pointer (some ⟨Bx, 0, none⟩), .tuple #[.agg (fcells (keptZ z) 0), .bool true], .slice (some ⟨b, o, none⟩) 32 cap, .tuple #[.agg (fcells (keptZ z) 0), .bool true], .agg (fcells (keptZ z) 0), .bool true, .bool true, .agg (fcells (keptZ z) 0), .func (.func 59) #[] #[.pointer (some ⟨W2.heap.size, 0, none⟩)], .agg #[.int .i64 ((x.1.1 : Nat) : Int), .int .i64 ((x.1.2 : Nat) : Int)], undef, undef, undef, undef, undef], defers := [] }) ∧ Blk W Bx #[.int .i64 ((x.1.1 : Nat) : Int), .int .i64 ((x.1.2 : Nat) : Int)] 53)
    (fun x a' s A B row hs hg hr => by obtain ⟨Bx, h1, h2⟩ := hs; exact ⟨Bx, h1, (blk_own (β := Unit) _ _ (fun _ => #[.int .i64 ((x.1.1 : Nat) : Int), .int .i64 ((x.1.2 : Nat) : Int)])).from _ () A B row h2 hg hr⟩)
    ?assign ?body ?done ?stop
  case assign =>
    rintro l pre x W K ⟨g1, g2, g4⟩ hK
    have hW := g1.lt
    gi_wp2
    exact hK _ _ ((KeepsOthers.alloc _ _).from _) (KS.alloc _ _ (fun i hi => by simp at hi; omega)) ⟨g1.alloc _, g2.alloc _, g4.alloc g4.size _⟩ ⟨W.heap.size, ⟨g1.lt, rfl⟩, Blk.new W _ _⟩
  case body =>
    rintro l pre x a' W hl _ ⟨g1, g2, g4⟩ ⟨Bx, ⟨hBx, rfl⟩, bX⟩ hlen
    have c2 : W.cell? ⟨w.heap.size, 0, none⟩ = some (.int .i64 (sumH (rawH pre) : Int)) := g2.cell rfl
    have f2 := g2.frozen 0
    have c3 : W.cell? ⟨Bx, 0, none⟩ = some (.int .i64 ((x.1.1 : Nat) : Int)) := bX.cell rfl
    have c4 : W.cell? ⟨Bx, 1, none⟩ = some (.int .i64 ((x.1.2 : Nat) : Int)) := bX.cell rfl
    have hd : 1 ≤ 9 - 1 - 1 := by omega
    have hmx : Tryd.prog.follows .mixedOrders = true := by kernel_rfl
    have hsum := sumH_le pre
    have hxx := x.2
    have hsn := sumH_snoc pre x
    have HSN := Lib.hid hsn
    clear hsn
    have hN := g2.lt
    have hX := bX.lt
    have hg1 := g1.lt
    obtain ⟨d, hdd⟩ : ∃ d : Nat, x.1.2 - x.1.1 = d := ⟨_, rfl⟩
    have hd1 : d ≤ 32 := by omega
    have hlen2 := length_any x
    rw [hdd] at hlen2 HSN
    have HLEN := Lib.hid hlen2
    clear hlen2 hdd
    generalize hS : sumH (rawH pre) = s at c2 hsum HSN
    have hs1 : s ≤ 1024 := by omega
    clear hS hsum
    have hw : IntKind.i64.wrap ((s : Int) + (d : Int)) = ((s + d : Nat) : Int) := by rw [IntWalk.i64_in _ (by omega)]; omega
    gi_wp2
    gi_region_with_o (first | (gi_at_call 48; refine (CallsIn.inRound l (callsIn_wide.2 (HLEN.out _))).mono ?_; rintro e w' ⟨rfl, rfl⟩) | (refine ⟨trivial, ?_⟩; gi_at_call 48; refine (CallsIn.inRound l (callsIn_wide.2 (HLEN.out _))).mono ?_; rintro e w' ⟨rfl, rfl⟩))
    all_goals gi_wp2
    all_goals
      refine ⟨((KeepsOthers.setCell _ _ _).trans ((KeepsOthers.alloc _ _).trans (KeepsOthers.drew _))).from _, ?_, ((g1.other (by omega) _ _).alloc _).drew, ?_, ((g4.setCell (p := ⟨w.heap.size, 0, none⟩) (by simp) _).alloc (by simp [World.setCell]; omega) _).drew⟩
      · have hk : KS [W2.heap.size] W ((W.setCell ⟨w.heap.size, 0, none⟩ (.int .i64 ((s : Int) + (d : Int)))).alloc (.cells #[.int .i64 ((x.1.1 : Nat) : Int), .int .i64 ((x.1.2 : Nat) : Int)] 53)) := (KS.setCell W w.heap.size 0 _ (fun i hi => by simp at hi; omega)).trans (KS.alloc _ _ (fun i hi => by simp at hi; simp [World.setCell]; omega))
        exact ⟨hk.1, hk.2⟩
      · rw [HSN.out, Int.natCast_add]
        exact ((g2.set 0 _).alloc _).drew
  case done =>
    rintro D xs W hD hS ⟨g1, g2, g4⟩ hK
    have c2 : W.cell? ⟨w.heap.size, 0, none⟩ = some (.int .i64 (sumH (rawH xs) : Int)) := g2.cell rfl
    rw [hS] at c2
    clear hS g2
    gi_wp2
    go_wp2
    refine ⟨by simp, .inl ⟨_, _, rfl, run_takeDeferred hK, ?_⟩⟩
    exact ⟨_, results_tmp rfl _ _ _, rfl, g4.trans (belowK_b (w := W3) (by have := HSZ.out; omega) _ D _ _ hD hK rfl rfl)⟩
  case stop =>
    rintro D c pre W _ _ h _
    exact h.elim
end Go.Proofs.YtanccoahpcfbnaaDoor
