/-
  HoleTells of chapter 8, walked: it returns true for every list, line and number, and what lay in memory stays.
-/
import Derived.Test.YtgjhdjfjfmbejaaRefE
namespace Go.Proofs.Ytgjhdjfjfmbejaa
open Go.RowKit Go.Lib Go.Shelf
attribute [local go_sem] Oper.semAt_some

def ListPost (w : World) (ps : List (Nat × Nat)) (en : Int) (e : Ending) (w' : World) : Prop := ∃ u, e = .returned (.tuple #[u, .int .i64 en]) ∧ HL w' u ps ∧ Below w.heap.size w w'
def IntsPost (w : World) (xs : List Int) (en : Int) (e : Ending) (w' : World) : Prop := ∃ u, e = .returned (.tuple #[u, .int .i64 en]) ∧ IL w' u xs ∧ Below w.heap.size w w'
def HolePost (w : World) (x y : Int) (b : Bool) (e : Ending) (w' : World) : Prop := e = .returned (.tuple #[.agg #[.int .i64 x, .int .i64 y], .bool b]) ∧ Below w.heap.size w w'
def NumPost (w : World) (n : Int) (e : Ending) (w' : World) : Prop := e = .returned (.int .i64 n) ∧ Below w.heap.size w w'
theorem hole2_lit (r : Option (Nat × Nat)) : ∃ x y : Int, hole2 r = #[.int .i64 x, .int .i64 y] := by
  cases r with
  | none => exact ⟨0, 0, rfl⟩
  | some p => exact ⟨_, _, rfl⟩
theorem HL.nil (w : World) : HL w (.slice none 0 0) [] := ⟨none, 0, rfl, by simp, fun i x hx => by simp at hx⟩
theorem IL.nil (w : World) : IL w (.slice none 0 0) [] := ⟨none, 0, rfl, by simp, fun i x hx => by simp at hx⟩
theorem IL.blk {w : World} {g : Nat} {c : Nat → Nat} {t : TypeId} (h : Blk w g (ncells c) t) : IL w (.slice (some ⟨g, 0, none⟩) 33 33) ((List.range 33).map fun i => ((c i : Nat) : Int)) := by
  refine ⟨some ⟨g, 0, none⟩, 33, by simp, by simp, fun i x hx => ⟨g, 0, rfl, ?_⟩⟩
  rw [Nat.zero_add]
  simp only [List.getElem?_map, Option.map_eq_some_iff] at hx
  obtain ⟨j, hj, rfl⟩ := hx
  obtain ⟨hlt, rfl⟩ := List.getElem?_eq_some_iff.1 hj
  simp at hlt
  rw [List.getElem_range]
  exact h.cell (ncells_get c i hlt)

set_option maxRecDepth 100000 in
set_option maxHeartbeats 4000000 in
theorem tells_core (A : World → Prop) (v0 v : Value) (f n : Int) (w : World) (hA : A w) (hAb : ∀ w w', A w → Below w.heap.size w w' → A w')
    (ps : List (Nat × Nat)) (xs : List Int) (ea el x1 y1 x2 y2 rm lg : Int) (b1 b2 : Bool)
    (hcut : ∀ w, Calls Try.prog 9 #[v0] w fun e w' => e = .returned v ∧ w = w')
    (h1 : ∀ w, A w → Calls Try.prog 10 #[v] w (ListPost w ps ea)) (r1 : ∀ w, A w → Calls Try.prog 11 #[v] w (ListPost w ps ea))
    (h2 : ∀ w, A w → Calls Try.prog 12 #[v, .int .i64 f] w (HolePost w x1 y1 b1)) (r2 : ∀ w, A w → Calls Try.prog 13 #[v, .int .i64 f] w (HolePost w x1 y1 b1))
    (h3 : ∀ w, A w → Calls Try.prog 14 #[v, .int .i64 n] w (HolePost w x2 y2 b2)) (r3 : ∀ w, A w → Calls Try.prog 15 #[v, .int .i64 n] w (HolePost w x2 y2 b2))
    (h4 : ∀ w, A w → Calls Try.prog 16 #[v] w (IntsPost w xs el)) (r4 : ∀ w, A w → Calls Try.prog 17 #[v] w (IntsPost w xs el))
    (h5 : ∀ w, A w → Calls Try.prog 19 #[v] w (NumPost w rm)) (r5 : ∀ w, A w → Calls Try.prog 20 #[v] w (NumPost w rm))
    (h6 : ∀ w, A w → Calls Try.prog 21 #[v] w (NumPost w lg)) (r6 : ∀ w, A w → Calls Try.prog 22 #[v] w (NumPost w lg)) :
    Calls Try.prog 3 #[v0, .int .i64 f, .int .i64 n] w fun e w' => e = .returned (.bool true) ∧ Below w.heap.size w w' := by
  have HAb := Lib.hid hAb
  have HCUT := Lib.hid hcut
  have H1 := Lib.hid h1
  have R1 := Lib.hid r1
  have H2 := Lib.hid h2
  have R2 := Lib.hid r2
  have H3 := Lib.hid h3
  have R3 := Lib.hid r3
  have H4 := Lib.hid h4
  have R4 := Lib.hid r4
  have H5 := Lib.hid h5
  have R5 := Lib.hid r5
  have H6 := Lib.hid h6
  have R6 := Lib.hid r6
  have HA := Lib.hid hA
  clear hA hAb hcut h1 h2 h3 h4 h5 h6 r1 r2 r3 r4 r5 r6
  have HB := Lib.hid (Below.refl w.heap.size w)
  go_enter Try.func3, Try.ntmps3
  go_wp2_with (first
    | (go_at_call 8; ((with_reducible refine (shown_any _).mono ?_)); rintro e w0 ⟨rfl, hb⟩; replace HA := Lib.hid (HAb.out _ _ HA.out hb); replace HB := Lib.hid (bstep HB.out hb); clear hb)
    | (go_at_call 9; ((with_reducible refine (HCUT.out _).mono ?_)); rintro e w' ⟨rfl, rfl⟩)
    | (go_at_call 10; ((with_reducible refine (H1.out _ HA.out).mono ?_)); rintro e w1 ⟨u1, rfl, hH, hb⟩; have HL1 := Lib.hid hH; replace HA := Lib.hid (HAb.out _ _ HA.out hb); replace HB := Lib.hid (bstep HB.out hb); clear hb hH)
    | (go_at_call 11; ((with_reducible refine (R1.out _ HA.out).mono ?_)); rintro e w2 ⟨u2, rfl, hH, hb⟩; have HL2 := Lib.hid hH; replace HL1 := Lib.hid (HL1.out.below hb); replace HA := Lib.hid (HAb.out _ _ HA.out hb); replace HB := Lib.hid (bstep HB.out hb); clear hb hH)
    | (go_at_call 12; ((with_reducible refine (H2.out _ HA.out).mono ?_)); rintro e w3 ⟨rfl, hb⟩; replace HL2 := Lib.hid (HL2.out.below hb); replace HL1 := Lib.hid (HL1.out.below hb); replace HA := Lib.hid (HAb.out _ _ HA.out hb); replace HB := Lib.hid (bstep HB.out hb); clear hb))
  have hbA := (Below.refl _ w3).alloc (Nat.le_refl _) (.cells #[.int .i64 x1, .int .i64 y1] 30)
  have X1 := Lib.hid (Blk.new w3 #[.int .i64 x1, .int .i64 y1] 30)
  replace HL2 := Lib.hid (HL2.out.below hbA)
  replace HL1 := Lib.hid (HL1.out.below hbA)
  replace HA := Lib.hid (HAb.out _ _ HA.out hbA)
  replace HB := Lib.hid (bstep HB.out hbA)
  clear hbA
  generalize w3.alloc (.cells #[.int .i64 x1, .int .i64 y1] 30) = W3 at X1 HL1 HL2 HA HB  ⊢
  ((with_reducible refine (R2.out _ HA.out).mono ?_))
  rintro e w4 ⟨rfl, hb⟩
  replace HL2 := Lib.hid (HL2.out.below hb)
  replace HL1 := Lib.hid (HL1.out.below hb)
  replace HA := Lib.hid (HAb.out _ _ HA.out hb)
  replace HB := Lib.hid (bstep HB.out hb)
  replace X1 := Lib.hid (X1.out.below' hb)
  clear hb
  go_wp2_with fail
  have hbA := (Below.refl _ w4).alloc (Nat.le_refl _) (.cells #[.int .i64 x1, .int .i64 y1] 30)
  have X2 := Lib.hid (Blk.new w4 #[.int .i64 x1, .int .i64 y1] 30)
  replace HL2 := Lib.hid (HL2.out.below hbA)
  replace HL1 := Lib.hid (HL1.out.below hbA)
  replace HA := Lib.hid (HAb.out _ _ HA.out hbA)
  replace HB := Lib.hid (bstep HB.out hbA)
  replace X1 := Lib.hid (X1.out.below' hbA)
  clear hbA
  generalize w4.alloc (.cells #[.int .i64 x1, .int .i64 y1] 30) = W4 at X2 HL1 HL2 HA HB X1 ⊢
  ((with_reducible refine (H3.out _ HA.out).mono ?_))
  rintro e w5 ⟨rfl, hb⟩
  replace HL2 := Lib.hid (HL2.out.below hb)
  replace HL1 := Lib.hid (HL1.out.below hb)
  replace HA := Lib.hid (HAb.out _ _ HA.out hb)
  replace HB := Lib.hid (bstep HB.out hb)
  replace X1 := Lib.hid (X1.out.below' hb)
  replace X2 := Lib.hid (X2.out.below' hb)
  clear hb
  go_wp2_with fail
  have hbA := (Below.refl _ w5).alloc (Nat.le_refl _) (.cells #[.int .i64 x2, .int .i64 y2] 30)
  have X3 := Lib.hid (Blk.new w5 #[.int .i64 x2, .int .i64 y2] 30)
  replace HL2 := Lib.hid (HL2.out.below hbA)
  replace HL1 := Lib.hid (HL1.out.below hbA)
  replace HA := Lib.hid (HAb.out _ _ HA.out hbA)
  replace HB := Lib.hid (bstep HB.out hbA)
  replace X1 := Lib.hid (X1.out.below' hbA)
  replace X2 := Lib.hid (X2.out.below' hbA)
  clear hbA
  generalize w5.alloc (.cells #[.int .i64 x2, .int .i64 y2] 30) = W5 at X3 HL1 HL2 HA HB X1 X2 ⊢
  ((with_reducible refine (R3.out _ HA.out).mono ?_))
  rintro e w6 ⟨rfl, hb⟩
  replace HL2 := Lib.hid (HL2.out.below hb)
  replace HL1 := Lib.hid (HL1.out.below hb)
  replace HA := Lib.hid (HAb.out _ _ HA.out hb)
  replace HB := Lib.hid (bstep HB.out hb)
  replace X1 := Lib.hid (X1.out.below' hb)
  replace X2 := Lib.hid (X2.out.below' hb)
  replace X3 := Lib.hid (X3.out.below' hb)
  clear hb
  go_wp2_with fail
  have hbA := (Below.refl _ w6).alloc (Nat.le_refl _) (.cells #[.int .i64 x2, .int .i64 y2] 30)
  have X4 := Lib.hid (Blk.new w6 #[.int .i64 x2, .int .i64 y2] 30)
  replace HL2 := Lib.hid (HL2.out.below hbA)
  replace HL1 := Lib.hid (HL1.out.below hbA)
  replace HA := Lib.hid (HAb.out _ _ HA.out hbA)
  replace HB := Lib.hid (bstep HB.out hbA)
  replace X1 := Lib.hid (X1.out.below' hbA)
  replace X2 := Lib.hid (X2.out.below' hbA)
  replace X3 := Lib.hid (X3.out.below' hbA)
  clear hbA
  generalize w6.alloc (.cells #[.int .i64 x2, .int .i64 y2] 30) = W6 at X4 HL1 HL2 HA HB X1 X2 X3 ⊢
  go_wp2_with (first
    | (go_at_call 16; ((with_reducible refine (H4.out _ HA.out).mono ?_)); rintro e w7 ⟨u3, rfl, hI, hb⟩; have HI1 := Lib.hid hI; replace HL2 := Lib.hid (HL2.out.below hb); replace HL1 := Lib.hid (HL1.out.below hb); replace HA := Lib.hid (HAb.out _ _ HA.out hb); replace HB := Lib.hid (bstep HB.out hb); replace X1 := Lib.hid (X1.out.below' hb); replace X2 := Lib.hid (X2.out.below' hb); replace X3 := Lib.hid (X3.out.below' hb); replace X4 := Lib.hid (X4.out.below' hb); clear hb hI)
    | (go_at_call 17; ((with_reducible refine (R4.out _ HA.out).mono ?_)); rintro e w8 ⟨u4, rfl, hI, hb⟩; have HI2 := Lib.hid hI; replace HI1 := Lib.hid (HI1.out.below hb); replace HL2 := Lib.hid (HL2.out.below hb); replace HL1 := Lib.hid (HL1.out.below hb); replace HA := Lib.hid (HAb.out _ _ HA.out hb); replace HB := Lib.hid (bstep HB.out hb); replace X1 := Lib.hid (X1.out.below' hb); replace X2 := Lib.hid (X2.out.below' hb); replace X3 := Lib.hid (X3.out.below' hb); replace X4 := Lib.hid (X4.out.below' hb); clear hb hI)
    | (go_at_call 18; ((with_reducible refine (same_yes _ _ ps _ HL1.out HL2.out).mono ?_)); rintro e w9 ⟨rfl, hb⟩; replace HI1 := Lib.hid (HI1.out.below hb); replace HI2 := Lib.hid (HI2.out.below hb); replace HA := Lib.hid (HAb.out _ _ HA.out hb); replace HB := Lib.hid (bstep HB.out hb); replace X1 := Lib.hid (X1.out.below' hb); replace X2 := Lib.hid (X2.out.below' hb); replace X3 := Lib.hid (X3.out.below' hb); replace X4 := Lib.hid (X4.out.below' hb); have c1 := X1.out.cell (k := 0) rfl; have c2 := X1.out.cell (k := 1) rfl; have c3 := X2.out.cell (k := 0) rfl; have c4 := X2.out.cell (k := 1) rfl; have c5 := X3.out.cell (k := 0) rfl; have c6 := X3.out.cell (k := 1) rfl; have c7 := X4.out.cell (k := 0) rfl; have c8 := X4.out.cell (k := 1) rfl; clear hb)
    | (go_at_call 19; ((with_reducible refine (H5.out _ HA.out).mono ?_)); rintro e w10 ⟨rfl, hb⟩; replace HI1 := Lib.hid (HI1.out.below hb); replace HI2 := Lib.hid (HI2.out.below hb); replace HA := Lib.hid (HAb.out _ _ HA.out hb); replace HB := Lib.hid (bstep HB.out hb); clear hb)
    | (go_at_call 20; ((with_reducible refine (R5.out _ HA.out).mono ?_)); rintro e w11 ⟨rfl, hb⟩; replace HI1 := Lib.hid (HI1.out.below hb); replace HI2 := Lib.hid (HI2.out.below hb); replace HA := Lib.hid (HAb.out _ _ HA.out hb); replace HB := Lib.hid (bstep HB.out hb); clear hb)
    | (go_at_call 21; ((with_reducible refine (H6.out _ HA.out).mono ?_)); rintro e w12 ⟨rfl, hb⟩; replace HI1 := Lib.hid (HI1.out.below hb); replace HI2 := Lib.hid (HI2.out.below hb); replace HA := Lib.hid (HAb.out _ _ HA.out hb); replace HB := Lib.hid (bstep HB.out hb); clear hb)
    | (go_at_call 22; ((with_reducible refine (R6.out _ HA.out).mono ?_)); rintro e w13 ⟨rfl, hb⟩; replace HI1 := Lib.hid (HI1.out.below hb); replace HI2 := Lib.hid (HI2.out.below hb); replace HA := Lib.hid (HAb.out _ _ HA.out hb); replace HB := Lib.hid (bstep HB.out hb); clear hb)
    | (go_at_call 23; ((with_reducible refine (ints_yes _ _ xs _ HI1.out HI2.out).mono ?_)); rintro e w14 ⟨rfl, hb⟩; replace HB := Lib.hid (bstep HB.out hb); clear hb))
  go_ret
  exact ⟨rfl, HB.out⟩

theorem lawHoleTells (p : Option Addr) (n cap : Nat) (f m : Int) (w : World) (hn : n ≤ cap) (hm : cap ≤ maxLen) (hI : IC w p n) :
    Calls Try.prog 3 #[.slice p n cap, .int .i64 f, .int .i64 m] w fun e w' => e = .returned (.bool true) ∧ Below w.heap.size w w' := by
  rcases tabOr_of (cap := cap) hI with h | ⟨b, o, z, rfl, rfl, hT, hr⟩
  · refine tells_core (fun w => IC w p (min n 34) ∧ NoTab w (.slice p (min n 34) cap)) _ _ f m w ⟨fun i hi => hI i (by omega), h⟩ (fun w w' hA hb => ⟨hA.1.below hb, hA.2.below hb⟩) [] [] 70 70 0 0 0 0 0 0 false false
      (fun w => cut_any p n cap w hn hm) ?_ ?_ ?_ ?_ ?_ ?_ ?_ ?_ ?_ ?_ ?_ ?_
    · exact fun w hA => (all_no _ w hA.2).mono fun e w' ⟨he, hb⟩ => ⟨_, he, HL.nil _, hb⟩
    · exact fun w hA => (rall_no p _ cap w hA.1 (Nat.min_le_right _ _) hA.2).mono fun e w' ⟨he, hb⟩ => ⟨_, he, HL.nil _, by subst hb; exact Below.refl _ _⟩
    · exact fun w hA => next_no _ f w hA.2
    · exact fun w hA => rnext_no p _ cap f w hA.1 (Nat.min_le_right _ _) hA.2
    · exact fun w hA => fits_no _ m w hA.2
    · exact fun w hA => rfits_no p _ cap m w hA.1 (Nat.min_le_right _ _) hA.2
    · exact fun w hA => (lengths_no _ w hA.2).mono fun e w' ⟨he, hb⟩ => ⟨_, he, IL.nil _, hb⟩
    · exact fun w hA => (rlengths_no p _ cap w hA.1 (Nat.min_le_right _ _) hA.2).mono fun e w' ⟨he, hb⟩ => ⟨_, he, IL.nil _, hb⟩
    · exact fun w hA => room_no _ w hA.2
    · exact fun w hA => rroom_no p _ cap w hA.1 (Nat.min_le_right _ _) hA.2
    · exact fun w hA => longest_no _ w hA.2
    · exact fun w hA => rlongest_no p _ cap w hA.1 (Nat.min_le_right _ _) hA.2
  · obtain ⟨x1, y1, e1⟩ := hole2_lit (holesZ (keptZ z) (line0 f)).head?
    obtain ⟨x2, y2, e2⟩ := hole2_lit (fitO (keptZ z) m)
    refine tells_core (fun w => Tab w b o z) _ _ f m w hT (fun w w' hA hb => hA.below hb) (holesZ (keptZ z) 0) ((List.range 33).map fun i => ((cntH (holesZ (keptZ z) 0) i : Nat) : Int)) 0 0 x1 y1 x2 y2 (sumH (holesZ (keptZ z) 0) : Int) (maxH (holesZ (keptZ z) 0) : Int) (holesZ (keptZ z) (line0 f)).head?.isSome (fitO (keptZ z) m).isSome
      (fun w => cut_32 _ cap w hn hm) ?_ ?_ ?_ ?_ ?_ ?_ ?_ ?_ ?_ ?_ ?_ ?_
    · exact fun w hA => (all_h b o cap z w hA hr).mono fun e w' ⟨g, he, hH, hb⟩ => ⟨_, he, hH, hb⟩
    · exact fun w hA => rall_yes b o cap z w hA hr
    · exact fun w hA => (next_yes b o cap z f w hA hr).mono fun e w' ⟨he, hb⟩ => ⟨by rw [he, firstV, e1], hb⟩
    · exact fun w hA => (rnext_yes b o cap z f w hA hr).mono fun e w' ⟨he, hb⟩ => ⟨by rw [he, firstV, e1], hb⟩
    · exact fun w hA => (fits_yes b o cap z m w hA hr).mono fun e w' ⟨he, hb⟩ => ⟨by rw [he, firstV, e2], hb⟩
    · exact fun w hA => (rfits_yes b o cap z m w hA hr).mono fun e w' ⟨he, hb⟩ => ⟨by rw [he, firstV, e2], hb⟩
    · exact fun w hA => (lengths_yes b o cap z w hA hr).mono fun e w' ⟨g, he, hG, hb⟩ => ⟨_, he, IL.blk hG, hb⟩
    · exact fun w hA => (rlengths_yes b o cap z w hA hr).mono fun e w' ⟨g, he, hG, hb⟩ => ⟨_, he, IL.blk hG, hb⟩
    · exact fun w hA => room_yes b o cap z w hA hr
    · exact fun w hA => rroom_yes b o cap z w hA hr
    · exact fun w hA => longest_yes b o cap z w hA hr
    · exact fun w hA => rlongest_yes b o cap z w hA hr
end Go.Proofs.Ytgjhdjfjfmbejaa
