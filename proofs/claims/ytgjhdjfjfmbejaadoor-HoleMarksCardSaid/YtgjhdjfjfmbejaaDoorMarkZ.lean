/-
  HoleMarks of chapter 8, walked: it returns true for every list, extent and line, and what lay in memory stays.
-/
import Derived.Test.YtgjhdjfjfmbejaaDoorMarkT
import Derived.Test.YtgjhdjfjfmbejaaDoorHoleSumPlain
import Derived.Test.YtgjhdjfjfmbejaaDoorRefA
namespace Go.Proofs.YtgjhdjfjfmbejaaDoor
open Go.RowKit Go.Lib Go.Shelf
attribute [local go_sem] Oper.semAt_some

/-- What keeps more has fewer free lines. -/
theorem freeN_mono {q q' : Nat → Bool} (n : Nat) : ∀ i, (∀ k, i ≤ k → k < i + n → q k = true → q' k = true) → freeN q' n i ≤ freeN q n i := by
  induction n with
  | zero => intro i _; exact Nat.le_refl _
  | succ n ih =>
    intro i h
    have h1 := ih (i + 1) (fun k a b => h k (by omega) (by omega))
    have h2 := h i (Nat.le_refl _) (by omega)
    simp only [freeN]
    cases hq : q i
    · simp only [Bool.false_eq_true, if_false]; split <;> omega
    · rw [if_pos (h2 hq), if_pos rfl]; omega
/-- What keeps at most the lines f to l more. -/
theorem freeN_more {q q' : Nat → Bool} (f l : Nat) (n : Nat) : ∀ i, (∀ k, i ≤ k → k < i + n → q' k = true → q k = true ∨ f ≤ k ∧ k ≤ l) → freeN q n i ≤ freeN q' n i + (l + 1 - max f i) := by
  induction n with
  | zero => intro i _; simp [freeN]
  | succ n ih =>
    intro i h
    have h1 := ih (i + 1) (fun k a b => h k (by omega) (by omega))
    have h2 := h i (Nat.le_refl _) (by omega)
    simp only [freeN]
    cases hq' : q' i
    · simp only [Bool.false_eq_true, if_false]; split <;> omega
    · rw [if_pos rfl]
      rcases h2 hq' with h3 | h3
      · rw [if_pos h3]; omega
      · split <;> omega
theorem keptZ_cong {z y : Nat → Int} (h : ∀ i, z i = y i) (i : Nat) : keptZ z i = keptZ y i := by rw [funext h]
theorem mark_merge {z : Nat → Int} (hz : rightT z = true) {a n : Int} (i : Nat) (hi : i < 32) : keptZ (markZ z a n) i = (keptZ z i || keptZ (markZ (fun _ => 0) a n) i) := by
  rw [← kept_merge hz (markZ_right a n right0) i hi]
  have h0 := (rightT_iff z).1 hz i hi
  have h1 : 0 < i → 0 ≤ z (i - 1) ∧ z (i - 1) ≤ 2 := fun _ => (rightT_iff z).1 hz (i - 1) (by omega)
  have e0 : markZ z a n i = mergeZ z (markZ (fun _ => 0) a n) i := by simp only [markZ, mergeZ]; omega
  rw [Bool.eq_iff_iff, keptZ_iff, keptZ_iff, e0]
  have e1 : 0 < i → markZ z a n (i - 1) = mergeZ z (markZ (fun _ => 0) a n) (i - 1) := fun h => by have := h1 h; simp only [markZ, mergeZ]; omega
  constructor
  · rintro (h | ⟨h, k⟩)
    · exact .inl h
    · exact .inr ⟨h, by rw [← e1 h]; exact k⟩
  · rintro (h | ⟨h, k⟩)
    · exact .inl h
    · exact .inr ⟨h, by rw [e1 h]; exact k⟩
theorem room_marked {z : Nat → Int} (hz : rightT z = true) {a n : Int} (hx : xr a n) :
    sumH (holesZ (keptZ (markZ z a n)) 0) ≤ sumH (holesZ (keptZ z) 0) ∧ sumH (holesZ (keptZ z) 0) ≤ sumH (holesZ (keptZ (markZ z a n)) 0) + 17 := by
  rw [sumH_free _ 32 0 (by omega), sumH_free _ 32 0 (by omega)]
  simp only [Nat.sub_zero]
  refine ⟨freeN_mono 32 0 (fun k _ hk h => by rw [mark_merge hz k (by omega), h]; rfl), ?_⟩
  have hl : 0 ≤ lastL a n ∧ lastL a n - a / 128 ≤ 16 := by
    obtain ⟨x1, x2, _, x4, x5, x6⟩ := hx
    unfold lastL
    split
    · split <;> omega
    · omega
  have h0 : 0 ≤ a / 128 := by obtain ⟨x1, _⟩ := hx; omega
  have := freeN_more (q := keptZ z) (q' := keptZ (markZ z a n)) (a / 128).toNat (lastL a n).toNat 32 0 (fun k _ hk h => by
    rw [mark_merge hz k (by omega), Bool.or_eq_true] at h
    rcases h with h | h
    · exact .inl h
    · rw [kept_alone hx k (by omega), decide_eq_true_eq] at h
      exact .inr (by omega))
  omega
/-- The next hole lies no earlier once more is kept. -/
theorem next_marked {q q' : Nat → Bool} (h : ∀ k, k < 32 → q k = true → q' k = true) (i : Nat) (x' : Nat × Nat) (hx : (holesZ q' i).head? = some x') : ∃ x : Nat × Nat, (holesZ q i).head? = some x ∧ x.1 ≤ x'.1 := by
  cases h1 : holesZ q' i with
  | nil => rw [h1] at hx; cases hx
  | cons y rest =>
    rw [h1] at hx
    obtain rfl : y = x' := by simpa using hx
    obtain ⟨a1, a2, a3, _, a5, _⟩ := holesZ_cons q' 32 i (by omega) _ _ h1
    have hn : q y.1 = false := by
      cases e : q y.1
      · rfl
      · have := h _ (by omega) e
        rw [a5 y.1 (Nat.le_refl _) a2] at this; cases this
    cases h2 : holesZ q i with
    | nil => have := holesZ_nil q 32 i (by omega) h2 y.1 a1 (by omega); rw [hn] at this; cases this
    | cons x rest' =>
      obtain ⟨_, _, _, b4, _⟩ := holesZ_cons q 32 i (by omega) _ _ h2
      refine ⟨x, rfl, ?_⟩
      rcases Nat.lt_or_ge y.1 x.1 with h3 | h3
      · have := b4 y.1 a1 h3; rw [hn] at this; cases this
      · exact h3

/-- A contract for hole.Next at one table, whatever the world. -/
def NextAt (o : Option (Nat → Int)) (f x y : Int) (b : Bool) : Prop := ∀ v w, AR w v o → Calls Tryd.prog 29 #[v, .int .i64 f] w fun e w' => e = .returned (.tuple #[.agg #[.int .i64 x, .int .i64 y], .bool b]) ∧ Below w.heap.size w w'
theorem NextAt.call {o : Option (Nat → Int)} {f x y : Int} {b : Bool} (h : NextAt o f x y b) (v : Value) (w : World) (hA : AR w v o) : Calls Tryd.prog 29 #[v, .int .i64 f] w fun e w' => e = .returned (.tuple #[.agg #[.int .i64 x, .int .i64 y], .bool b]) ∧ Below w.heap.size w w' := h v w hA
theorem nextAt_none (f : Int) : NextAt none f 0 0 false := fun v w h => next_no' v f w h
theorem nextAt_off (z : Nat → Int) (f : Int) (hx : (holesZ (keptZ z) (line0 f)).head? = none) : NextAt (some z) f 0 0 false := fun v w h => by
  obtain ⟨b, o, cap, rfl, hT, hr⟩ := h
  exact next_off b o cap z f w hT hr hx
theorem nextAt_at (z : Nat → Int) (f : Int) (x : Nat × Nat) (hx : (holesZ (keptZ z) (line0 f)).head? = some x) : NextAt (some z) f x.1 x.2 true := fun v w h => by
  obtain ⟨b, o, cap, rfl, hT, hr⟩ := h
  exact next_at b o cap z f x w hT hr hx
theorem nextAt_any (o : Option (Nat → Int)) (f : Int) : ∃ x y b, NextAt o f x y b := by
  cases o with
  | none => exact ⟨_, _, _, nextAt_none f⟩
  | some z =>
    cases h : (holesZ (keptZ z) (line0 f)).head? with
    | none => exact ⟨_, _, _, nextAt_off z f h⟩
    | some x => exact ⟨_, _, _, nextAt_at z f x h⟩

set_option maxRecDepth 100000 in
set_option maxHeartbeats 2000000 in
theorem hmarks_bad (V : VA) (p : Option Addr) (k cap : Nat) (a n f : Int) (w : World) (hV : MV w V) (hn : k ≤ cap) (hm : cap ≤ maxLen) (o : Option (Nat → Int)) (en x y : Int) (c : Bool) (hA : AR w (.slice p (min k 34) cap) o) (m1 : MarkAt V o a n none en) (q : (en != 0) = true) (n1 : NextAt o f x y c) :
    Calls Tryd.prog 9 #[.slice p k cap, .int .i64 a, .int .i64 n, .int .i64 f] w fun e w' => e = .returned (.bool true) ∧ Below w.heap.size w w' := by
  have M1 := Lib.hid m1
  have N1 := Lib.hid n1
  have N2 := Lib.hid (nextAt_none f)
  have HA := Lib.hid hA
  have HV := Lib.hid hV
  have HB := Lib.hid (Below.refl w.heap.size w)
  clear m1 n1 hA hV
  go_enter Tryd.func9, Tryd.ntmps9
  go_wp2_with (first
    | (go_at_call 28; ((with_reducible refine (shown_any _).mono ?_)); rintro e w1 ⟨rfl, hb⟩; replace HA := Lib.hid (HA.out.below hb); replace HV := Lib.hid (HV.out.below hb); replace HB := Lib.hid (bstep HB.out hb); clear hb)
    | (go_at_call 11; ((with_reducible refine (cut_ar p k cap _ hn hm).mono ?_)); rintro e w' ⟨rfl, rfl⟩))
  ((with_reducible refine (M1.out.call _ _ HV.out HA.out).mono ?_))
  rintro e w2 ⟨u1, rfl, h1, hu, hb⟩
  obtain rfl := hu rfl
  clear hu
  replace HA := Lib.hid (HA.out.below hb)
  replace HB := Lib.hid (bstep HB.out hb)
  have A1 := Lib.hid h1
  clear hb h1
  go_wp2_with fail
  ((with_reducible refine (N1.out.call _ _ HA.out).mono ?_))
  rintro e w3 ⟨rfl, hb⟩
  replace A1 := Lib.hid (A1.out.below hb)
  replace HB := Lib.hid (bstep HB.out hb)
  clear hb
  have hbA := (Below.refl _ w3).alloc (Nat.le_refl _) (.cells #[.int .i64 x, .int .i64 y] 41)
  replace A1 := Lib.hid (A1.out.below hbA)
  replace HB := Lib.hid (bstep HB.out hbA)
  clear hbA
  go_wp2_with fail
  ((with_reducible refine (N2.out.call _ _ A1.out).mono ?_))
  rintro e w4 ⟨rfl, hb⟩
  replace HB := Lib.hid (bstep HB.out hb)
  clear hb
  go_wp2
  go_ret
  exact ⟨rfl, HB.out.alloc HB.out.size _⟩

set_option maxRecDepth 100000 in
set_option maxHeartbeats 2000000 in
theorem hmarks_good (V : VA) (p : Option Addr) (k cap : Nat) (a n f : Int) (w : World) (hV : MV w V) (hn : k ≤ cap) (hm : cap ≤ maxLen) (z : Nat → Int) (x y : Int) (c : Bool) (x' y' : Int) (c' : Bool) (hA : AR w (.slice p (min k 34) cap) (some z)) (hx : xr a n)
    (n1 : NextAt (some z) f x y c) (n2 : NextAt (some (markZ z a n)) f x' y' c') (q : c' = false ∨ c' = true ∧ c = true ∧ x ≤ x') :
    Calls Tryd.prog 9 #[.slice p k cap, .int .i64 a, .int .i64 n, .int .i64 f] w fun e w' => e = .returned (.bool true) ∧ Below w.heap.size w w' := by
  have M1 := Lib.hid (markAt_good V z a n hx)
  have N1 := Lib.hid n1
  have N2 := Lib.hid n2
  have hz : rightT z = true := by obtain ⟨_, _, _, _, _, hr⟩ := hA; exact hr
  have hr := room_marked hz hx
  have hc := room_count z
  have r1 : ∀ (v : Value) (w : World), AR w v (some z) → Calls Tryd.prog 30 #[v] w fun e w' => e = .returned (.int .i64 (sumH (holesZ (keptZ z) 0) : Int)) ∧ Below w.heap.size w w' := fun v w h => by
    obtain ⟨b, o, cap, rfl, hT, hr⟩ := h
    exact room_yes b o cap z w hT hr
  have r2 : ∀ (v : Value) (w : World), AR w v (some (markZ z a n)) → Calls Tryd.prog 30 #[v] w fun e w' => e = .returned (.int .i64 (sumH (holesZ (keptZ (markZ z a n)) 0) : Int)) ∧ Below w.heap.size w w' := fun v w h => by
    obtain ⟨b, o, cap, rfl, hT, hr⟩ := h
    exact room_yes b o cap _ w hT hr
  have rr : ∀ (v : Value) (w : World), AR w v (some (markZ z a n)) → Calls Tryd.prog 23 #[v] w fun e w' => e = .returned (.bool true) ∧ w = w' := fun v w h => by
    obtain ⟨b, o, cap, rfl, hT, hr⟩ := h
    exact rright_yes b o cap _ w hT hr
  obtain ⟨S, hS⟩ : ∃ S : Int, (sumH (holesZ (keptZ z) 0) : Int) = S := ⟨_, rfl⟩
  obtain ⟨S', hS'⟩ : ∃ S' : Int, (sumH (holesZ (keptZ (markZ z a n)) 0) : Int) = S' := ⟨_, rfl⟩
  have s0 : 0 ≤ S' := by omega
  have s1 : S' ≤ S := by omega
  have s2 : S ≤ S' + 17 := by omega
  have s3 : S ≤ 32 := by omega
  rw [hS] at r1
  rw [hS'] at r2
  have R1 := Lib.hid r1
  have R2 := Lib.hid r2
  have RR := Lib.hid rr
  have HA := Lib.hid hA
  have HV := Lib.hid hV
  have HB := Lib.hid (Below.refl w.heap.size w)
  clear n1 n2 hA hV hx hr hc r1 r2 rr hS hS' hz
  rcases q with rfl | ⟨rfl, rfl, hxx⟩
  · go_enter Tryd.func9, Tryd.ntmps9
    go_wp2_with (first
      | (go_at_call 28; ((with_reducible refine (shown_any _).mono ?_)); rintro e w1 ⟨rfl, hb⟩; replace HA := Lib.hid (HA.out.below hb); replace HV := Lib.hid (HV.out.below hb); replace HB := Lib.hid (bstep HB.out hb); clear hb)
      | (go_at_call 11; ((with_reducible refine (cut_ar p k cap _ hn hm).mono ?_)); rintro e w' ⟨rfl, rfl⟩))
    ((with_reducible refine (M1.out.call _ _ HV.out HA.out).mono ?_))
    rintro e w2 ⟨u1, rfl, h1, _, hb⟩
    replace HA := Lib.hid (HA.out.below hb)
    replace HB := Lib.hid (bstep HB.out hb)
    have A1 := Lib.hid h1
    clear hb h1 M1
    go_wp2_with fail
    ((with_reducible refine (N1.out.call _ _ HA.out).mono ?_))
    rintro e w3 ⟨rfl, hb⟩
    have hbA := (Below.refl _ w3).alloc (Nat.le_refl _) (.cells #[.int .i64 x, .int .i64 y] 41)
    have d0 := (Blk.new w3 #[.int .i64 x, .int .i64 y] 41).cell (k := 0) rfl
    have hb' := bstep hb hbA
    replace HA := Lib.hid (HA.out.below hb')
    replace A1 := Lib.hid (A1.out.below hb')
    replace HB := Lib.hid (bstep HB.out hb')
    clear hb hbA hb'
    go_wp2_with fail
    ((with_reducible refine (N2.out.call _ _ A1.out).mono ?_))
    rintro e w4 ⟨rfl, hb⟩
    have hbA := (Below.refl _ w4).alloc (Nat.le_refl _) (.cells #[.int .i64 x', .int .i64 y'] 41)
    have d1 := (Blk.new w4 #[.int .i64 x', .int .i64 y'] 41).cell (k := 0) rfl
    have hb' := bstep hb hbA
    replace d0 := cell_below d0 hb'
    replace HA := Lib.hid (HA.out.below hb')
    replace A1 := Lib.hid (A1.out.below hb')
    replace HB := Lib.hid (bstep HB.out hb')
    clear hb hbA hb'
    go_wp2_with fail
    ((with_reducible refine (R2.out _ _ A1.out).mono ?_))
    rintro e w5 ⟨rfl, hb⟩
    replace d0 := cell_below d0 hb
    replace d1 := cell_below d1 hb
    replace HA := Lib.hid (HA.out.below hb)
    replace A1 := Lib.hid (A1.out.below hb)
    replace HB := Lib.hid (bstep HB.out hb)
    clear hb
    go_wp2_with fail
    ((with_reducible refine (R1.out _ _ HA.out).mono ?_))
    rintro e w6 ⟨rfl, hb⟩
    replace d0 := cell_below d0 hb
    replace d1 := cell_below d1 hb
    replace HA := Lib.hid (HA.out.below hb)
    replace A1 := Lib.hid (A1.out.below hb)
    replace HB := Lib.hid (bstep HB.out hb)
    clear hb
    go_wp2_with fail
    ((with_reducible refine (R2.out _ _ A1.out).mono ?_))
    rintro e w7 ⟨rfl, hb⟩
    replace d0 := cell_below d0 hb
    replace d1 := cell_below d1 hb
    replace HA := Lib.hid (HA.out.below hb)
    replace A1 := Lib.hid (A1.out.below hb)
    replace HB := Lib.hid (bstep HB.out hb)
    clear hb
    go_wp2_with fail
    ((with_reducible refine (R1.out _ _ HA.out).mono ?_))
    rintro e w8 ⟨rfl, hb⟩
    replace d0 := cell_below d0 hb
    replace d1 := cell_below d1 hb
    replace A1 := Lib.hid (A1.out.below hb)
    replace HB := Lib.hid (bstep HB.out hb)
    clear hb
    go_wp2_with fail
    ((with_reducible refine (RR.out _ _ A1.out).mono ?_))
    rintro e w' ⟨rfl, rfl⟩
    go_wp2
    go_ret
    exact ⟨rfl, HB.out⟩
  · go_enter Tryd.func9, Tryd.ntmps9
    go_wp2_with (first
      | (go_at_call 28; ((with_reducible refine (shown_any _).mono ?_)); rintro e w1 ⟨rfl, hb⟩; replace HA := Lib.hid (HA.out.below hb); replace HV := Lib.hid (HV.out.below hb); replace HB := Lib.hid (bstep HB.out hb); clear hb)
      | (go_at_call 11; ((with_reducible refine (cut_ar p k cap _ hn hm).mono ?_)); rintro e w' ⟨rfl, rfl⟩))
    ((with_reducible refine (M1.out.call _ _ HV.out HA.out).mono ?_))
    rintro e w2 ⟨u1, rfl, h1, _, hb⟩
    replace HA := Lib.hid (HA.out.below hb)
    replace HB := Lib.hid (bstep HB.out hb)
    have A1 := Lib.hid h1
    clear hb h1 M1
    go_wp2_with fail
    ((with_reducible refine (N1.out.call _ _ HA.out).mono ?_))
    rintro e w3 ⟨rfl, hb⟩
    have hbA := (Below.refl _ w3).alloc (Nat.le_refl _) (.cells #[.int .i64 x, .int .i64 y] 41)
    have d0 := (Blk.new w3 #[.int .i64 x, .int .i64 y] 41).cell (k := 0) rfl
    have hb' := bstep hb hbA
    replace HA := Lib.hid (HA.out.below hb')
    replace A1 := Lib.hid (A1.out.below hb')
    replace HB := Lib.hid (bstep HB.out hb')
    clear hb hbA hb'
    go_wp2_with fail
    ((with_reducible refine (N2.out.call _ _ A1.out).mono ?_))
    rintro e w4 ⟨rfl, hb⟩
    have hbA := (Below.refl _ w4).alloc (Nat.le_refl _) (.cells #[.int .i64 x', .int .i64 y'] 41)
    have d1 := (Blk.new w4 #[.int .i64 x', .int .i64 y'] 41).cell (k := 0) rfl
    have hb' := bstep hb hbA
    replace d0 := cell_below d0 hb'
    replace HA := Lib.hid (HA.out.below hb')
    replace A1 := Lib.hid (A1.out.below hb')
    replace HB := Lib.hid (bstep HB.out hb')
    clear hb hbA hb'
    go_wp2_with fail
    ((with_reducible refine (R2.out _ _ A1.out).mono ?_))
    rintro e w5 ⟨rfl, hb⟩
    replace d0 := cell_below d0 hb
    replace d1 := cell_below d1 hb
    replace HA := Lib.hid (HA.out.below hb)
    replace A1 := Lib.hid (A1.out.below hb)
    replace HB := Lib.hid (bstep HB.out hb)
    clear hb
    go_wp2_with fail
    ((with_reducible refine (R1.out _ _ HA.out).mono ?_))
    rintro e w6 ⟨rfl, hb⟩
    replace d0 := cell_below d0 hb
    replace d1 := cell_below d1 hb
    replace HA := Lib.hid (HA.out.below hb)
    replace A1 := Lib.hid (A1.out.below hb)
    replace HB := Lib.hid (bstep HB.out hb)
    clear hb
    go_wp2_with fail
    ((with_reducible refine (R2.out _ _ A1.out).mono ?_))
    rintro e w7 ⟨rfl, hb⟩
    replace d0 := cell_below d0 hb
    replace d1 := cell_below d1 hb
    replace HA := Lib.hid (HA.out.below hb)
    replace A1 := Lib.hid (A1.out.below hb)
    replace HB := Lib.hid (bstep HB.out hb)
    clear hb
    go_wp2_with fail
    ((with_reducible refine (R1.out _ _ HA.out).mono ?_))
    rintro e w8 ⟨rfl, hb⟩
    replace d0 := cell_below d0 hb
    replace d1 := cell_below d1 hb
    replace A1 := Lib.hid (A1.out.below hb)
    replace HB := Lib.hid (bstep HB.out hb)
    clear hb
    go_wp2_with fail
    ((with_reducible refine (RR.out _ _ A1.out).mono ?_))
    rintro e w' ⟨rfl, rfl⟩
    go_wp2
    go_ret
    exact ⟨rfl, HB.out⟩

theorem lawHoleMarks (V : VA) (p : Option Addr) (k cap : Nat) (a n f : Int) (w : World) (hV : MV w V) (hn : k ≤ cap) (hm : cap ≤ maxLen) (hI : IC w p k) :
    Calls Tryd.prog 9 #[.slice p k cap, .int .i64 a, .int .i64 n, .int .i64 f] w fun e w' => e = .returned (.bool true) ∧ Below w.heap.size w w' := by
  obtain ⟨o, hA⟩ := ar_of (cap := cap) hI
  obtain ⟨x, y, c, n1⟩ := nextAt_any o f
  cases o with
  | none => exact hmarks_bad V p k cap a n f w hV hn hm none 70 x y c hA (markAt_none V a n) rfl n1
  | some z =>
    by_cases hx : xr a n
    · cases h : (holesZ (keptZ (markZ z a n)) (line0 f)).head? with
      | none => exact hmarks_good V p k cap a n f w hV hn hm z x y c _ _ _ hA hx n1 (nextAt_off _ f h) (.inl rfl)
      | some x' =>
        have hz : rightT z = true := by obtain ⟨_, _, _, _, _, hr⟩ := hA; exact hr
        obtain ⟨x0, h0, hle⟩ := next_marked (q := keptZ z) (fun k hk h => by rw [mark_merge hz k hk, h]; rfl) (line0 f) x' h
        exact hmarks_good V p k cap a n f w hV hn hm z _ _ _ _ _ _ hA hx (nextAt_at z f x0 h0) (nextAt_at _ f x' h) (.inr ⟨rfl, rfl, by omega⟩)
    · exact hmarks_bad V p k cap a n f w hV hn hm (some z) 11 x y c hA (markAt_bad V z a n hx) rfl n1
end Go.Proofs.YtgjhdjfjfmbejaaDoor
