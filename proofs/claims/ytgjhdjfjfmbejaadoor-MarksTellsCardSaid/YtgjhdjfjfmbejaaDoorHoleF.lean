/-
  hole.Lengths: of each length how many holes of a table have it; what lay in memory stays.
-/
import Derived.Test.YtgjhdjfjfmbejaaDoorHoleE
namespace Go.Proofs.YtgjhdjfjfmbejaaDoor
open Go.RowKit Go.Lib Go.Shelf
attribute [local go_sem] Oper.semAt_some

/-- Thirty-three numbers. -/
def ncells (c : Nat → Nat) : Array Value := ((List.range 33).map fun i => Value.int .i64 ((c i : Nat) : Int)).toArray
theorem ncells_size (c : Nat → Nat) : (ncells c).size = 33 := by simp [ncells]
theorem ncells_get (c : Nat → Nat) (i : Nat) (hi : i < 33) : (ncells c)[i]? = some (.int .i64 ((c i : Nat) : Int)) := by simp [ncells, hi]
theorem ncells_set (c : Nat → Nat) (i m : Nat) (hi : i < 33) : (ncells c).setIfInBounds i (.int .i64 (m : Int)) = ncells (fun j => if j = i then m else c j) := by
  apply Array.ext_getElem?
  intro j
  rw [Array.getElem?_setIfInBounds]
  by_cases h : i = j
  · subst h
    rw [if_pos rfl, if_pos (by rw [ncells_size]; omega), ncells_get _ _ hi]
    simp
  · rw [if_neg h]
    by_cases hj : j < 33
    · rw [ncells_get _ _ hj, ncells_get _ _ hj]
      simp [Ne.symm h]
    · rw [Array.getElem?_eq_none (by rw [ncells_size]; omega), Array.getElem?_eq_none (by rw [ncells_size]; omega)]
/-- How many of some holes have length n. -/
def cntH (ps : List (Nat × Nat)) (n : Nat) : Nat := ps.countP fun p => p.2 - p.1 == n
theorem cntH_snoc (xs : List Hl) (x : Hl) : (fun j => if j = x.1.2 - x.1.1 then cntH (rawH xs) (x.1.2 - x.1.1) + 1 else cntH (rawH xs) j) = cntH (rawH (xs ++ [x])) := by
  funext j
  simp only [cntH, rawH, List.map_append, List.map_cons, List.map_nil, List.countP_append, List.countP_cons, List.countP_nil]
  by_cases h : j = x.1.2 - x.1.1
  · subst h; simp
  · simp [h, Ne.symm h]
theorem cntH_le (xs : List Hl) (n : Nat) : cntH (rawH xs) n ≤ xs.length := by
  unfold cntH rawH
  exact Nat.le_trans (List.countP_le_length) (by simp)
def LenPost (w : World) (ps : List (Nat × Nat)) (e : Ending) (w' : World) : Prop := ∃ g, e = .returned (.tuple #[.slice (some ⟨g, 0, none⟩) 33 33, .int .i64 0]) ∧ Blk w' g (ncells (cntH ps)) 90 ∧ Below w.heap.size w w'

set_option maxRecDepth 100000 in
set_option maxHeartbeats 2000000 in
theorem lengths_yes (b o cap : Nat) (z : Nat → Int) (w : World) (hT : Tab w b o z) (hr : rightT z = true) :
    Calls Tryd.prog 43 #[.slice (some ⟨b, o, none⟩) 32 cap] w (LenPost w (holesZ (keptZ z) 0)) := by
  have HT := Lib.hid hT
  have HR := Lib.hid hr
  clear hT hr
  refine (callsIn_wide (n := 9)).1 ?_
  refine callsIn_of_wp_marks Tryd.func43 rfl trivial ?_ rfl
  simp only [Tryd.ntmps43, List.size_toArray, List.length_cons, List.length_nil, Nat.reduceAdd, Nat.reduceSub, Array.replicate_succ, Array.replicate_zero, List.push_toArray, List.append_toArray, List.nil_append, List.cons_append]
  refine wpIn_wide.2 ?_
  go_wp2_with (first
    | (go_at_call 46; ((with_reducible refine (look_yes b o cap z 0 _ HT.out HR.out).mono ?_)); rintro e w1 ⟨rfl, hb1⟩; have HB1 := Lib.hid hb1; clear hb1)
    | (refine wpList_store_new rfl 72 _ _ rfl _ (fcells (keptZ z) 0) 72 rfl rfl (by rw [fcells_size]; exact Tryd.infoFinder) (by rw [fcells_size]; rfl) (fcells_one _ _) ?_; intro W2 bF bK hB2 hs2; have HB2 := Lib.hid (bstep HB1.out hB2); clear bK hB2 hs2)
    | (refine wpList_load_row rfl 72 _ rfl _ rfl 72 _ (0, 0) _ (bF.alloc _) Tryd.underlying72 rfl (by rw [fcells_size]; exact Tryd.infoFinder) ?_)
    | (go_at_call 48; ((with_reducible refine (holes_any _ _ _).mono ?_)); rintro e w' ⟨rfl, rfl⟩))
  refine (wpIn_wide (n := 9)).1 ?_
  obtain ⟨bL', bH, hB', hsz⟩ := blk2 W2 (ncells fun _ => 0) (fcells (keptZ z) 0) 90 72
  have bL := bL'
  have hB3 := HB2.out.trans (hB'.mono HB2.out.size)
  have hle : w.heap.size ≤ W2.heap.size := HB2.out.size
  clear bL' hB' bF HB1
  change Code.wpIn _ _ _ _ _ _ ((W2.alloc (.cells (ncells fun _ => 0) 90)).alloc (.cells (fcells (keptZ z) 0) 72))
  generalize (W2.alloc (.cells (ncells fun _ => 0) 90)).alloc (.cells (fcells (keptZ z) 0) 72) = W3 at bL bH hB3 hsz ⊢
  have HSZ := Lib.hid hsz
  clear hsz
  have bL0 : Blk W3 W2.heap.size (ncells (cntH (rawH []))) 90 := bL
  refine wpIn_rangeFunc_ownH rfl (by omega) (gf := 58) (lb := #[.pointer (some ⟨W2.heap.size + 1, 0, none⟩)]) rfl trivial (enters_of Tryd.func58 (by kernel_rfl) rfl)
    (holes1_stops _ (by omega) (W2.heap.size + 1) 0 (keptZ z) W3 (by exact bH)) (fun h k => h.trans k) (KS.putObj (fun i hi => by simp at hi; have := HSZ.out; omega)) (Below.refl _ _) (fun _ => rfl)
    (fun pre W => Blk W (W2.heap.size + 1) (fcells (keptZ z) 0) 72 ∧ Blk W W2.heap.size (ncells (cntH (rawH pre))) 90 ∧ Below w.heap.size w W)
    (fun _ _ _ => False)
    (((blk_own _ _ _).from _).and (((blk_own _ _ _).from _).and (ownFrom_below (Nat.le_refl _) (by have := HSZ.out; omega))))
    (fun c _ _ _ _ hs _ _ => hs)
    ⟨bH, bL0, hB3⟩
    (fun x a' W => ∃ Bx, (W2.heap.size + 1 < Bx ∧ a' = { tmps := #[.slice (some ⟨b, o, none⟩) 32 cap, undef, .slice none 0 0, .int .i64 0, .pointer (some ⟨w1.heap.size, 0, none⟩), .bool true, .pointer (some ⟨W2.heap.size, 0, none⟩), .pointer (some ⟨Bx, 0, none⟩), .tuple #[.agg (fcells (keptZ z) 0), .bool true], .slice (some ⟨b, o, none⟩) 32 cap, .tuple #[.agg (fcells (keptZ z) 0), .bool true], .agg (fcells (keptZ z) 0), .bool true, .bool true, .bool false, .agg (fcells (keptZ z) 0), .func (.func 58) #[] #[.pointer (some ⟨W2.heap.size + 1, 0, none⟩)], .agg #[.int .i64 ((x.1.1 : Nat) : Int), .int .i64 ((x.1.2 : Nat) : Int)], undef, undef, undef, undef, undef, undef, undef], defers := [] }) ∧ Blk W Bx #[.int .i64 ((x.1.1 : Nat) : Int), .int .i64 ((x.1.2 : Nat) : Int)] 41)
    (fun x a' s A B row hs hg hr => by obtain ⟨Bx, h1, h2⟩ := hs; exact ⟨Bx, h1, (blk_own (β := Unit) _ _ (fun _ => #[.int .i64 ((x.1.1 : Nat) : Int), .int .i64 ((x.1.2 : Nat) : Int)])).from _ () A B row h2 hg hr⟩)
    ?assign ?body ?done ?stop
  case assign =>
    rintro l pre x W K ⟨g1, g2, g4⟩ hK
    have hW := g1.lt
    gi_wp2
    exact hK _ _ ((KeepsOthers.alloc _ _).from _) (KS.alloc _ _ (fun i hi => by simp at hi; omega)) ⟨g1.alloc _, g2.alloc _, g4.alloc g4.size _⟩ ⟨W.heap.size, ⟨g1.lt, rfl⟩, Blk.new W _ _⟩
  case body =>
    rintro l pre x a' W hl _ ⟨g1, g2, g4⟩ ⟨Bx, ⟨hBx, rfl⟩, bX⟩ hlen
    have c3 : W.cell? ⟨Bx, 0, none⟩ = some (.int .i64 ((x.1.1 : Nat) : Int)) := bX.cell rfl
    have c4 : W.cell? ⟨Bx, 1, none⟩ = some (.int .i64 ((x.1.2 : Nat) : Int)) := bX.cell rfl
    have hxx := x.2
    have hsn := cntH_snoc pre x
    have hcl := cntH_le pre (x.1.2 - x.1.1)
    have hN := g2.lt
    have hX := bX.lt
    have hg1 := g1.lt
    obtain ⟨d, hdd⟩ : ∃ d : Nat, x.1.2 - x.1.1 = d := ⟨_, rfl⟩
    have hd1 : d ≤ 32 := by omega
    have hlen2 := length_any x
    rw [hdd] at hlen2 hsn hcl
    have HSN := Lib.hid hsn
    have HLEN := Lib.hid hlen2
    clear hlen2 hdd hsn
    have c2 : W.cell? ⟨W2.heap.size, d, none⟩ = some (.int .i64 ((cntH (rawH pre) d : Nat) : Int)) := g2.cell (ncells_get _ d (by omega))
    have f2 := g2.frozen d
    generalize hS : cntH (rawH pre) d = s at c2 hcl
    have HS := Lib.hid hS
    clear hS
    gi_wp2_with (refine ⟨trivial, ?_⟩; gi_at_call 49; refine (CallsIn.inRound l (callsIn_wide.2 (HLEN.out _))).mono ?_; rintro e w' ⟨rfl, rfl⟩)
    have HC : Blk W W2.heap.size (ncells (cntH (rawH pre))) 90 := g2
    refine ⟨((KeepsOthers.setCell _ _ _).trans (KeepsOthers.alloc _ _)).from _, ?_, (g1.other (by omega) _ _).alloc _, ?_, ((g4.setCell (p := ⟨W2.heap.size, d, none⟩) hle _).alloc (by simp [World.setCell]; omega) _)⟩
    · exact (KS.setCell W W2.heap.size d _ (fun i hi => by simp at hi; omega)).trans (KS.alloc _ _ (fun i hi => by simp at hi; simp [World.setCell]; omega))
    · have h1 := (HC.set d (.int .i64 ((s + 1 : Nat) : Int))).alloc (.cells #[.int .i64 ((x.1.1 : Nat) : Int), .int .i64 ((x.1.2 : Nat) : Int)] 41)
      rw [ncells_set _ _ _ (by omega), ← HS.out, HSN.out, HS.out] at h1
      exact h1
  case done =>
    rintro D xs W hD hS ⟨g1, g2, g4⟩ hK
    rw [hS] at g2
    clear hS
    gi_wp2
    go_wp2
    refine ⟨by simp, .inl ⟨_, _, rfl, run_takeDeferred hK, ?_⟩⟩
    exact ⟨_, results_tmp2 rfl _ _ _, _, rfl, blk_putObj _ g2 hK rfl, g4.trans (belowK_b (w := W3) (by have := HSZ.out; omega) _ D _ _ hD hK rfl rfl)⟩
  case stop =>
    rintro D c pre W _ _ h _
    exact h.elim
end Go.Proofs.YtgjhdjfjfmbejaaDoor
