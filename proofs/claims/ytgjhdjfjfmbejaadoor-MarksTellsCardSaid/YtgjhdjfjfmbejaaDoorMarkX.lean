/-
  MarksTells of chapter 7, walked: it returns true for every two lists, line and extent, and what lay in memory stays.
-/
import Derived.Test.YtgjhdjfjfmbejaaDoorRefN
import Derived.Test.YtgjhdjfjfmbejaaDoorRefL
namespace Go.Proofs.YtgjhdjfjfmbejaaDoor
open Go.RowKit Go.Lib Go.Shelf
attribute [local go_sem] Oper.semAt_some

/-- A list and an error's number are returned. -/
def IP (w : World) (xs : List Int) (en : Int) (e : Ending) (w' : World) : Prop := ∃ u, e = .returned (.tuple #[u, .int .i64 en]) ∧ IL w' u xs ∧ Below w.heap.size w w'
/-- A list is returned. -/
def LP (w : World) (xs : List Int) (e : Ending) (w' : World) : Prop := ∃ u, e = .returned u ∧ IL w' u xs ∧ Below w.heap.size w w'
def BP (w : World) (c : Bool) (e : Ending) (w' : World) : Prop := e = .returned (.bool c) ∧ Below w.heap.size w w'
def NP (w : World) (c : Int) (e : Ending) (w' : World) : Prop := e = .returned (.int .i64 c) ∧ Below w.heap.size w w'
def listO : Option (Nat → Int) → List Int
  | none => []
  | some z => (List.range 32).map z
theorem IL.nil' (w : World) : IL w (.slice none 0 0) [] := ⟨none, 0, rfl, by simp, fun i x hx => by simp at hx⟩
theorem Made.ip {w w' : World} {o : Option (Nat → Int)} {en : Int} {e : Ending} (h : Made w o en e w') : IP w (listO o) en e w' := by
  obtain ⟨u, he, hA, hu, hb⟩ := h
  cases o with
  | none => obtain rfl := hu rfl; exact ⟨_, he, IL.nil' _, hb⟩
  | some z => exact ⟨u, he, IL.ar hA (fun _ => rfl), hb⟩

set_option maxRecDepth 100000 in
set_option maxHeartbeats 4000000 in
theorem mtells_core (A : World → Prop) (v0 u0 v u : Value) (line a n : Int) (w : World) (hA : A w) (hAb : ∀ w w', A w → Below w.heap.size w w' → A w') (xs ys ls zs : List Int) (ex ey cn : Int) (c d : Bool)
    (hc1 : ∀ w, Calls Tryd.prog 11 #[v0] w fun e w' => e = .returned v ∧ w = w')
    (hc2 : ∀ w, Calls Tryd.prog 11 #[u0] w fun e w' => e = .returned u ∧ w = w')
    (s : ∀ w, A w → Calls Tryd.prog 10 #[] w (BP w true))
    (h1 : ∀ w, A w → Calls Tryd.prog 12 #[v, .int .i64 a, .int .i64 n] w (IP w xs ex))
    (r1 : ∀ w, A w → Calls Tryd.prog 20 #[v, .int .i64 a, .int .i64 n] w (IP w xs ex))
    (h2 : ∀ w, A w → Calls Tryd.prog 21 #[v, u] w (IP w ys ey))
    (r2 : ∀ w, A w → Calls Tryd.prog 22 #[v, u] w (IP w ys ey))
    (h3 : ∀ w, A w → Calls Tryd.prog 14 #[v] w (BP w c))
    (r3 : ∀ w, A w → Calls Tryd.prog 23 #[v] w (BP w c))
    (h4 : ∀ w, A w → Calls Tryd.prog 16 #[v, .int .i64 line] w (BP w d))
    (r4 : ∀ w, A w → Calls Tryd.prog 24 #[v, .int .i64 line] w (BP w d))
    (h5 : ∀ w, A w → Calls Tryd.prog 19 #[v] w (LP w ls))
    (r5 : ∀ w, A w → Calls Tryd.prog 25 #[v] w (LP w ls))
    (h6 : ∀ w, A w → Calls Tryd.prog 18 #[v] w (NP w cn))
    (r6 : ∀ w, A w → Calls Tryd.prog 26 #[v] w (NP w cn))
    (h7 : ∀ w, A w → Calls Tryd.prog 17 #[] w (LP w zs))
    (r7 : ∀ w, A w → Calls Tryd.prog 27 #[] w (LP w zs)) :
    Calls Tryd.prog 7 #[v0, u0, .int .i64 line, .int .i64 a, .int .i64 n] w fun e w' => e = .returned (.bool true) ∧ Below w.heap.size w w' := by
  have HAb := Lib.hid hAb
  have C1 := Lib.hid hc1
  have C2 := Lib.hid hc2
  have HA := Lib.hid hA
  have S := Lib.hid s
  have H1 := Lib.hid h1
  have R1 := Lib.hid r1
  have H2 := Lib.hid h2
  have R2 := Lib.hid r2
  have H3 := Lib.hid h3
  have R3 := Lib.hid r3
  have H4 := Lib.hid h4
  have R4 := Lib.hid r4
  have H5 := Lib.hid h5
  have R5 := Lib.hid r5
  have H6 := Lib.hid h6
  have R6 := Lib.hid r6
  have H7 := Lib.hid h7
  have R7 := Lib.hid r7
  clear hA hAb hc1 hc2 s h1 r1 h2 r2 h3 r3 h4 r4 h5 r5 h6 r6 h7 r7
  have HB := Lib.hid (Below.refl w.heap.size w)
  go_enter Tryd.func7, Tryd.ntmps7
  go_wp2_with fail
  ((with_reducible refine (S.out _ HA.out).mono ?_))
  rintro e w1 ⟨rfl, hb⟩
  replace HA := Lib.hid (HAb.out _ _ HA.out hb)
  replace HB := Lib.hid (bstep HB.out hb)
  clear hb
  go_wp2_with fail
  ((with_reducible refine (C1.out _).mono ?_))
  rintro e w' ⟨rfl, rfl⟩
  go_wp2_with fail
  ((with_reducible refine (C2.out _).mono ?_))
  rintro e w' ⟨rfl, rfl⟩
  go_wp2_with fail
  ((with_reducible refine (H1.out _ HA.out).mono ?_))
  rintro e w2 ⟨u2, rfl, hI, hb⟩
  replace HA := Lib.hid (HAb.out _ _ HA.out hb)
  replace HB := Lib.hid (bstep HB.out hb)
  have L1 := Lib.hid hI
  clear hb hI
  go_wp2_with fail
  ((with_reducible refine (R1.out _ HA.out).mono ?_))
  rintro e w3 ⟨u3, rfl, hI, hb⟩
  replace HA := Lib.hid (HAb.out _ _ HA.out hb)
  replace HB := Lib.hid (bstep HB.out hb)
  replace L1 := Lib.hid (L1.out.below hb)
  have L2 := Lib.hid hI
  clear hb hI
  go_wp2_with fail
  ((with_reducible refine (H2.out _ HA.out).mono ?_))
  rintro e w4 ⟨u4, rfl, hI, hb⟩
  replace HA := Lib.hid (HAb.out _ _ HA.out hb)
  replace HB := Lib.hid (bstep HB.out hb)
  replace L1 := Lib.hid (L1.out.below hb)
  replace L2 := Lib.hid (L2.out.below hb)
  have L3 := Lib.hid hI
  clear hb hI
  go_wp2_with fail
  ((with_reducible refine (R2.out _ HA.out).mono ?_))
  rintro e w5 ⟨u5, rfl, hI, hb⟩
  replace HA := Lib.hid (HAb.out _ _ HA.out hb)
  replace HB := Lib.hid (bstep HB.out hb)
  replace L1 := Lib.hid (L1.out.below hb)
  replace L2 := Lib.hid (L2.out.below hb)
  replace L3 := Lib.hid (L3.out.below hb)
  have L4 := Lib.hid hI
  clear hb hI
  go_wp2_with fail
  ((with_reducible refine (H3.out _ HA.out).mono ?_))
  rintro e w6 ⟨rfl, hb⟩
  replace HA := Lib.hid (HAb.out _ _ HA.out hb)
  replace HB := Lib.hid (bstep HB.out hb)
  replace L1 := Lib.hid (L1.out.below hb)
  replace L2 := Lib.hid (L2.out.below hb)
  replace L3 := Lib.hid (L3.out.below hb)
  replace L4 := Lib.hid (L4.out.below hb)
  clear hb
  go_wp2_with fail
  ((with_reducible refine (R3.out _ HA.out).mono ?_))
  rintro e w7 ⟨rfl, hb⟩
  replace HA := Lib.hid (HAb.out _ _ HA.out hb)
  replace HB := Lib.hid (bstep HB.out hb)
  replace L1 := Lib.hid (L1.out.below hb)
  replace L2 := Lib.hid (L2.out.below hb)
  replace L3 := Lib.hid (L3.out.below hb)
  replace L4 := Lib.hid (L4.out.below hb)
  clear hb
  go_wp2_with fail
  ((with_reducible refine (H4.out _ HA.out).mono ?_))
  rintro e w8 ⟨rfl, hb⟩
  replace HA := Lib.hid (HAb.out _ _ HA.out hb)
  replace HB := Lib.hid (bstep HB.out hb)
  replace L1 := Lib.hid (L1.out.below hb)
  replace L2 := Lib.hid (L2.out.below hb)
  replace L3 := Lib.hid (L3.out.below hb)
  replace L4 := Lib.hid (L4.out.below hb)
  clear hb
  go_wp2_with fail
  ((with_reducible refine (R4.out _ HA.out).mono ?_))
  rintro e w9 ⟨rfl, hb⟩
  replace HA := Lib.hid (HAb.out _ _ HA.out hb)
  replace HB := Lib.hid (bstep HB.out hb)
  replace L1 := Lib.hid (L1.out.below hb)
  replace L2 := Lib.hid (L2.out.below hb)
  replace L3 := Lib.hid (L3.out.below hb)
  replace L4 := Lib.hid (L4.out.below hb)
  clear hb
  go_wp2_with fail
  ((with_reducible refine (H5.out _ HA.out).mono ?_))
  rintro e w10 ⟨u10, rfl, hI, hb⟩
  replace HA := Lib.hid (HAb.out _ _ HA.out hb)
  replace HB := Lib.hid (bstep HB.out hb)
  replace L1 := Lib.hid (L1.out.below hb)
  replace L2 := Lib.hid (L2.out.below hb)
  replace L3 := Lib.hid (L3.out.below hb)
  replace L4 := Lib.hid (L4.out.below hb)
  have L5 := Lib.hid hI
  clear hb hI
  go_wp2_with fail
  ((with_reducible refine (R5.out _ HA.out).mono ?_))
  rintro e w11 ⟨u11, rfl, hI, hb⟩
  replace HA := Lib.hid (HAb.out _ _ HA.out hb)
  replace HB := Lib.hid (bstep HB.out hb)
  replace L1 := Lib.hid (L1.out.below hb)
  replace L2 := Lib.hid (L2.out.below hb)
  replace L3 := Lib.hid (L3.out.below hb)
  replace L4 := Lib.hid (L4.out.below hb)
  replace L5 := Lib.hid (L5.out.below hb)
  have L6 := Lib.hid hI
  clear hb hI
  go_wp2_with fail
  ((with_reducible refine (ints_yes _ _ ls _ L5.out L6.out).mono ?_))
  rintro e w12 ⟨rfl, hb⟩
  replace HA := Lib.hid (HAb.out _ _ HA.out hb)
  replace HB := Lib.hid (bstep HB.out hb)
  replace L1 := Lib.hid (L1.out.below hb)
  replace L2 := Lib.hid (L2.out.below hb)
  replace L3 := Lib.hid (L3.out.below hb)
  replace L4 := Lib.hid (L4.out.below hb)
  clear hb L5 L6
  go_wp2_with fail
  ((with_reducible refine (H6.out _ HA.out).mono ?_))
  rintro e w13 ⟨rfl, hb⟩
  replace HA := Lib.hid (HAb.out _ _ HA.out hb)
  replace HB := Lib.hid (bstep HB.out hb)
  replace L1 := Lib.hid (L1.out.below hb)
  replace L2 := Lib.hid (L2.out.below hb)
  replace L3 := Lib.hid (L3.out.below hb)
  replace L4 := Lib.hid (L4.out.below hb)
  clear hb
  go_wp2_with fail
  ((with_reducible refine (R6.out _ HA.out).mono ?_))
  rintro e w14 ⟨rfl, hb⟩
  replace HA := Lib.hid (HAb.out _ _ HA.out hb)
  replace HB := Lib.hid (bstep HB.out hb)
  replace L1 := Lib.hid (L1.out.below hb)
  replace L2 := Lib.hid (L2.out.below hb)
  replace L3 := Lib.hid (L3.out.below hb)
  replace L4 := Lib.hid (L4.out.below hb)
  clear hb
  go_wp2_with fail
  ((with_reducible refine (ints_yes _ _ xs _ L1.out L2.out).mono ?_))
  rintro e w15 ⟨rfl, hb⟩
  replace HA := Lib.hid (HAb.out _ _ HA.out hb)
  replace HB := Lib.hid (bstep HB.out hb)
  replace L3 := Lib.hid (L3.out.below hb)
  replace L4 := Lib.hid (L4.out.below hb)
  clear hb L1 L2
  go_wp2_with fail
  ((with_reducible refine (ints_yes _ _ ys _ L3.out L4.out).mono ?_))
  rintro e w16 ⟨rfl, hb⟩
  replace HA := Lib.hid (HAb.out _ _ HA.out hb)
  replace HB := Lib.hid (bstep HB.out hb)
  clear hb L3 L4
  go_wp2_with fail
  ((with_reducible refine (H7.out _ HA.out).mono ?_))
  rintro e w17 ⟨u17, rfl, hI, hb⟩
  replace HA := Lib.hid (HAb.out _ _ HA.out hb)
  replace HB := Lib.hid (bstep HB.out hb)
  have L7 := Lib.hid hI
  clear hb hI
  go_wp2_with fail
  ((with_reducible refine (R7.out _ HA.out).mono ?_))
  rintro e w18 ⟨u18, rfl, hI, hb⟩
  replace HA := Lib.hid (HAb.out _ _ HA.out hb)
  replace HB := Lib.hid (bstep HB.out hb)
  replace L7 := Lib.hid (L7.out.below hb)
  have L8 := Lib.hid hI
  clear hb hI
  go_wp2_with fail
  ((with_reducible refine (ints_yes _ _ zs _ L7.out L8.out).mono ?_))
  rintro e w19 ⟨rfl, hb⟩
  replace HA := Lib.hid (HAb.out _ _ HA.out hb)
  replace HB := Lib.hid (bstep HB.out hb)
  clear hb L7 L8
  go_wp2
  go_ret
  refine ⟨?_, HB.out⟩
  first | rfl | simp

def cntO : Option (Nat → Int) → List Int
  | none => []
  | some z => intsL (keptL z 32)
def numO : Option (Nat → Int) → Int
  | none => 0
  | some z => ((keptL z 32).length : Int)
theorem rkept_ra (v : Value) (o : Option (Nat → Int)) (line : Int) (w : World) (h : RA w v o) : Calls Tryd.prog 24 #[v, .int .i64 line] w (BP w (keptO o line)) := by
  obtain ⟨h1, p, n, cap, rfl, h2, h3⟩ := h
  cases o with
  | none => exact (rkept_no line p n cap w h2 h3 h1).mono fun _ _ ⟨he, hw⟩ => ⟨he, hw ▸ Below.refl _ _⟩
  | some z =>
    obtain ⟨b, o, cap, e, hT, hr⟩ := h1
    rw [e]
    by_cases hl : line < 0 ∨ 32 ≤ line
    · rw [show keptO (some z) line = false by simp [keptO, keptI]; omega]
      exact (rkept_out line b o cap z w hT hr hl).mono fun _ _ ⟨he, hw⟩ => ⟨he, hw ▸ Below.refl _ _⟩
    · obtain ⟨l, rfl⟩ := Int.eq_ofNat_of_zero_le (show 0 ≤ line by omega)
      rw [show keptO (some z) (l : Int) = keptZ z l by simp [keptO, keptI]; omega]
      exact (rkept_in l b o cap z w hT hr (by omega)).mono fun _ _ ⟨he, hw⟩ => ⟨he, hw ▸ Below.refl _ _⟩
theorem lines_ra (v : Value) (o : Option (Nat → Int)) (w : World) (h : RA w v o) : Calls Tryd.prog 19 #[v] w (LP w (cntO o)) := by
  cases o with
  | none => exact (lines_none v w h.1).mono fun _ _ ⟨he, hb⟩ => ⟨_, he, IL.nil' _, hb⟩
  | some z =>
    obtain ⟨b, o, cap, e, hT, hr⟩ := h.1
    rw [e]
    exact (lines_yes b o cap z w hT hr).mono fun _ _ ⟨v, he, ⟨_, _, ho⟩, hb⟩ => ⟨v, he, IL.own ho (by have := keptL_len z 32; omega), hb⟩
theorem rlines_ra (v : Value) (o : Option (Nat → Int)) (w : World) (h : RA w v o) : Calls Tryd.prog 25 #[v] w (LP w (cntO o)) := by
  obtain ⟨h1, p, n, cap, rfl, h2, h3⟩ := h
  cases o with
  | none => exact (rlines_no p n cap w h2 h3 h1).mono fun _ _ ⟨he, hw⟩ => ⟨_, he, IL.nil' _, hw ▸ Below.refl _ _⟩
  | some z =>
    obtain ⟨b, o, cap, e, hT, hr⟩ := h1
    rw [e]
    exact (rlines_yes b o cap z w hT hr).mono fun _ _ ⟨v, he, ho, hb⟩ => ⟨v, he, IL.own ho (by have := keptL_len z 32; omega), hb⟩
theorem count_ra (v : Value) (o : Option (Nat → Int)) (w : World) (h : RA w v o) : Calls Tryd.prog 18 #[v] w (NP w (numO o)) := by
  cases o with
  | none => exact count_none v w h.1
  | some z => obtain ⟨b, o, cap, e, hT, hr⟩ := h.1; rw [e]; exact count_yes b o cap z w hT hr
theorem rcount_ra (v : Value) (o : Option (Nat → Int)) (w : World) (h : RA w v o) : Calls Tryd.prog 26 #[v] w (NP w (numO o)) := by
  obtain ⟨h1, p, n, cap, rfl, h2, h3⟩ := h
  cases o with
  | none => exact rcount_no p n cap w h2 h3 h1
  | some z => obtain ⟨b, o, cap, e, hT, hr⟩ := h1; rw [e]; exact rcount_yes b o cap z w hT hr
theorem new_lp (w : World) (e : Ending) (w' : World) (h : e = .returned (.slice (some ⟨w.heap.size, 0, none⟩) 32 32) ∧ w' = w.alloc (.cells (tcells fun _ => 0) 3)) : LP w ((List.range 32).map fun _ => 0) e w' := by
  obtain ⟨rfl, rfl⟩ := h
  exact ⟨_, rfl, IL.tab (Blk.new w (tcells fun _ => 0) 3).tab, (Below.refl _ w).alloc (Nat.le_refl _) _⟩
/-- What Mark and its reference make. -/
theorem mark_two (V : VA) (o : Option (Nat → Int)) (a n : Int) : ∃ xs en, (∀ v w, MV w V → RA w v o → Calls Tryd.prog 12 #[v, .int .i64 a, .int .i64 n] w (IP w xs en)) ∧ (∀ v w, RA w v o → Calls Tryd.prog 20 #[v, .int .i64 a, .int .i64 n] w (IP w xs en)) := by
  cases o with
  | none => exact ⟨_, _, fun v w hV h => (markO_table V v a n w hV h.1).mono fun _ _ h => h.ip, fun v w h => (rmark_no v a n w h).mono fun _ _ h => h.ip⟩
  | some z =>
    by_cases hx : xr a n
    · exact ⟨_, _, fun v w hV h => (markO_good V v z a n w hV h.1 hx).mono fun _ _ h => h.ip, fun v w h => (rmark_good v z a n w h.1 hx).mono fun _ _ h => h.ip⟩
    · exact ⟨_, _, fun v w hV h => (markO_bad V v z a n w hV h.1 hx).mono fun _ _ h => h.ip, fun v w h => (rmark_bad v z a n w h hx).mono fun _ _ h => h.ip⟩
theorem tab_made {w w' : World} {z : Nat → Int} {e : Ending} (hr : rightT z = true) (h : TabPost w z e w') : Made w (some z) 0 e w' := by
  obtain ⟨g, he, hG, hb⟩ := h
  exact ⟨_, he, ⟨g, 0, 32, rfl, hG, hr⟩, (fun h => by cases h), hb⟩
theorem merge_two (V : VA) (o q : Option (Nat → Int)) : ∃ xs en, (∀ v u w, MV w V → RA w v o → RA w u q → Calls Tryd.prog 21 #[v, u] w (IP w xs en)) ∧ (∀ v u w, RA w v o → RA w u q → Calls Tryd.prog 22 #[v, u] w (IP w xs en)) := by
  cases o with
  | none => exact ⟨[], 70, fun v u w hV h _ => (Merge_no1 v u V w hV h.1).mono fun _ _ ⟨he, hb⟩ => ⟨_, he, IL.nil' _, hb⟩, fun v u w h _ => (rmerge_no1 v u w h).mono fun _ _ h => h.ip⟩
  | some z =>
    cases q with
    | none =>
      refine ⟨[], 70, fun v u w hV h k => ?_, fun v u w h k => (rmerge_no2 v u z w h k).mono fun _ _ h => h.ip⟩
      obtain ⟨b, o, cap, e, hT, hr⟩ := h.1
      rw [e]
      exact (Merge_no2 b o cap z u V w hV hT hr k.1).mono fun _ _ ⟨he, hb⟩ => ⟨_, he, IL.nil' _, hb⟩
    | some y =>
      refine ⟨listO (some (mergeZ z y)), 0, fun v u w _ h k => ?_, fun v u w h k => (rmerge_yes v u z y w h.1 k.1).mono fun _ _ h => h.ip⟩
      obtain ⟨b, o, cap, e, hT, hr⟩ := h.1
      obtain ⟨b', o', cap', e', hU, hq⟩ := k.1
      rw [e, e']
      exact (Merge_yes b o cap b' o' cap' z y w hT hr hU hq).mono fun _ _ h => (tab_made (mergeZ_right hr hq) h).ip
theorem IC.cut {w : World} {p : Option Addr} {k : Nat} (h : IC w p k) : IC w p (min k 34) := fun i hi => h i (by omega)

theorem lawMarksTells (V : VA) (p : Option Addr) (k cap : Nat) (p' : Option Addr) (k' cap' : Nat) (line a n : Int) (w : World) (hV : MV w V) (hn : k ≤ cap) (hm : cap ≤ maxLen) (hI : IC w p k) (hn' : k' ≤ cap') (hm' : cap' ≤ maxLen) (hI' : IC w p' k') :
    Calls Tryd.prog 7 #[.slice p k cap, .slice p' k' cap', .int .i64 line, .int .i64 a, .int .i64 n] w fun e w' => e = .returned (.bool true) ∧ Below w.heap.size w w' := by
  obtain ⟨o, hA⟩ := ar_of (cap := cap) hI
  obtain ⟨q, hU⟩ := ar_of (cap := cap') hI'
  obtain ⟨xs, ex, m1, m2⟩ := mark_two V o a n
  obtain ⟨ys, ey, m3, m4⟩ := merge_two V o q
  exact mtells_core (fun w => MV w V ∧ RA w (.slice p (min k 34) cap) o ∧ RA w (.slice p' (min k' 34) cap') q) _ _ _ _ line a n w
    ⟨hV, ⟨hA, _, _, _, rfl, hI.cut, by omega⟩, ⟨hU, _, _, _, rfl, hI'.cut, by omega⟩⟩ (fun _ _ h hb => ⟨h.1.below hb, h.2.1.below hb, h.2.2.below hb⟩) xs ys (cntO o) ((List.range 32).map fun _ => 0) ex ey (numO o) o.isSome (keptO o line)
    (fun w => cut_ar p k cap w hn hm) (fun w => cut_ar p' k' cap' w hn' hm')
    (fun w h => shown7_any V w h.1)
    (fun w h => m1 _ w h.1 h.2.1) (fun w h => m2 _ w h.2.1)
    (fun w h => m3 _ _ w h.1 h.2.1 h.2.2) (fun w h => m4 _ _ w h.2.1 h.2.2)
    (fun w h => right_ar _ o w h.2.1.1) (fun w h => (rright_ra _ o w h.2.1).mono fun _ _ ⟨he, hw⟩ => ⟨he, hw ▸ Below.refl _ _⟩)
    (fun w h => kept_ar _ o line w h.2.1.1) (fun w h => rkept_ra _ o line w h.2.1)
    (fun w h => lines_ra _ o w h.2.1) (fun w h => rlines_ra _ o w h.2.1)
    (fun w h => count_ra _ o w h.2.1) (fun w h => rcount_ra _ o w h.2.1)
    (fun w _ => (make_any w).mono (new_lp w)) (fun w _ => (rmake_any w).mono (new_lp w))
end Go.Proofs.YtgjhdjfjfmbejaaDoor
