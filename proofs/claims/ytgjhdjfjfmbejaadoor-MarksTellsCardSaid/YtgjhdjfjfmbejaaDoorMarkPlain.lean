/-
  What marking and merging make of a table, in plain words. No program in sight but for what 'kept' says.
-/
import Derived.Test.YtgjhdjfjfmbejaaDoorMarksC
namespace Go.Proofs.YtgjhdjfjfmbejaaDoor

/-- What an extent marks of line i. -/
def mkF (at' n : Int) (i : Nat) : Int :=
  if n ≤ 128 then (if (i : Int) = at' / 128 then 2 else 0)
  else (if at' / 128 ≤ (i : Int) ∧ (i : Int) ≤ (at' + n - 1) / 128 then 1 else 0)
/-- A table with an extent marked. -/
def markZ (z : Nat → Int) (at' n : Int) (i : Nat) : Int := max (z i) (mkF at' n i)
/-- Two tables together. -/
def mergeZ (z y : Nat → Int) (i : Nat) : Int := max (z i) (y i)
/-- An extent that is right. -/
def xr (at' n : Int) : Prop := 0 ≤ at' ∧ at' < 4096 ∧ at' % 8 = 0 ∧ 1 ≤ n ∧ n ≤ 2048 ∧ n ≤ 4096 - at'
theorem mkF_bounds (at' n : Int) (i : Nat) : 0 ≤ mkF at' n i ∧ mkF at' n i ≤ 2 := by
  unfold mkF
  repeat' split
  all_goals omega
theorem rightT_of {z : Nat → Int} (h : ∀ i, i < 32 → 0 ≤ z i ∧ z i ≤ 2) : rightT z = true := (rightT_iff z).2 h
theorem markZ_right {z : Nat → Int} (at' n : Int) (h : rightT z = true) : rightT (markZ z at' n) = true := rightT_of fun i hi => by
  have h1 := (rightT_iff z).1 h i hi
  have h2 := mkF_bounds at' n i
  unfold markZ; omega
theorem mergeZ_right {z y : Nat → Int} (h : rightT z = true) (k : rightT y = true) : rightT (mergeZ z y) = true := rightT_of fun i hi => by
  have h1 := (rightT_iff z).1 h i hi
  have h2 := (rightT_iff y).1 k i hi
  unfold mergeZ; omega
theorem markZ_comm (z : Nat → Int) (a n b m : Int) (i : Nat) : markZ (markZ z a n) b m i = markZ (markZ z b m) a n i := by simp only [markZ]; omega
theorem markZ_again (z : Nat → Int) (a n b m : Int) (i : Nat) : markZ (markZ (markZ z a n) b m) a n i = markZ (markZ z a n) b m i := by simp only [markZ]; omega
theorem merge_mark (z y : Nat → Int) (a n : Int) (i : Nat) : mergeZ (markZ z a n) y i = markZ (mergeZ z y) a n i := by simp only [markZ, mergeZ]; omega
theorem merge_comm (z y : Nat → Int) (i : Nat) : mergeZ z y i = mergeZ y z i := by simp only [mergeZ]; omega
/-- Greater numbers keep more. -/
theorem kept_mono {z y : Nat → Int} (hz : rightT z = true) (hy : rightT y = true) (h : ∀ i, i < 32 → z i ≤ y i) (i : Nat) (hi : i < 32) (hk : keptZ z i = true) : keptZ y i = true := by
  have z1 := (rightT_iff z).1 hz i hi
  have y1 := (rightT_iff y).1 hy i hi
  have l1 := h i hi
  simp only [keptZ, decide_eq_true_eq] at hk ⊢
  rcases hk with hk | ⟨h0, hk⟩
  · left; omega
  · have y2 := (rightT_iff y).1 hy (i - 1) (by omega)
    have l2 := h (i - 1) (by omega)
    right; exact ⟨h0, by omega⟩
theorem keptZ_iff (z : Nat → Int) (i : Nat) : keptZ z i = true ↔ (z i ≠ 0 ∨ 0 < i ∧ z (i - 1) = 2) := by simp only [keptZ, decide_eq_true_eq]
theorem maxP (x y : Int) : x ≤ max x y ∧ y ≤ max x y ∧ (max x y = x ∨ max x y = y) := by omega
theorem kept_merge {z y : Nat → Int} (hz : rightT z = true) (hy : rightT y = true) (i : Nat) (hi : i < 32) : keptZ (mergeZ z y) i = (keptZ z i || keptZ y i) := by
  have z1 := (rightT_iff z).1 hz i hi
  have y1 := (rightT_iff y).1 hy i hi
  have z2 : 0 < i → 0 ≤ z (i - 1) ∧ z (i - 1) ≤ 2 := fun _ => (rightT_iff z).1 hz (i - 1) (by omega)
  have y2 : 0 < i → 0 ≤ y (i - 1) ∧ y (i - 1) ≤ 2 := fun _ => (rightT_iff y).1 hy (i - 1) (by omega)
  have m1 := maxP (z i) (y i)
  have m2 := maxP (z (i - 1)) (y (i - 1))
  rw [Bool.eq_iff_iff, Bool.or_eq_true, keptZ_iff, keptZ_iff, keptZ_iff]
  simp only [mergeZ]
  generalize max (z i) (y i) = m at m1 ⊢
  generalize max (z (i - 1)) (y (i - 1)) = m' at m2 ⊢
  generalize z (i - 1) = zp at *
  generalize y (i - 1) = yp at *
  generalize z i = zi at *
  generalize y i = yi at *
  constructor
  · rintro (h | ⟨h0, h⟩)
    · by_cases h1 : zi = 0
      · right; left; omega
      · left; left; exact h1
    · have := z2 h0
      have := y2 h0
      by_cases h1 : zp = 2
      · left; right; exact ⟨h0, h1⟩
      · right; right; exact ⟨h0, by omega⟩
  · rintro ((h | ⟨h0, h⟩) | (h | ⟨h0, h⟩))
    · left; omega
    · have := y2 h0
      right; exact ⟨h0, by omega⟩
    · left; omega
    · have := z2 h0
      right; exact ⟨h0, by omega⟩
/-- Each line in which an extent has bytes is kept once it is marked. -/
theorem kept_marked {z : Nat → Int} {a n : Int} (hz : rightT z = true) (hx : xr a n) (i : Nat) (h1 : a / 128 ≤ (i : Int)) (h2 : (i : Int) ≤ (a + n - 1) / 128) : i < 32 ∧ keptZ (markZ z a n) i = true := by
  obtain ⟨x1, x2, _, x4, x5, x6⟩ := hx
  have hi : i < 32 := by omega
  refine ⟨hi, ?_⟩
  have z1 := (rightT_iff z).1 hz i hi
  simp only [keptZ, decide_eq_true_eq]
  by_cases hn : n ≤ 128
  · by_cases hf : (i : Int) = a / 128
    · left; simp only [markZ, mkF]; rw [if_pos hn, if_pos hf]; omega
    · right
      have z2 := (rightT_iff z).1 hz (i - 1) (by omega)
      refine ⟨by omega, ?_⟩
      simp only [markZ, mkF]
      rw [if_pos hn, if_pos (by omega)]; omega
  · left; simp only [markZ, mkF]; rw [if_neg hn, if_pos ⟨h1, h2⟩]; omega
/-- The last line that is kept, of an extent marked alone. -/
def lastL (a n : Int) : Int := if n ≤ 128 then (if a / 128 + 1 ≤ 31 then a / 128 + 1 else 31) else (a + n - 1) / 128
/-- Of a table of free lines with an extent marked, these lines are kept and no others. -/
theorem kept_alone {a n : Int} (hx : xr a n) (i : Nat) (hi : i < 32) : keptZ (markZ (fun _ => 0) a n) i = decide (a / 128 ≤ (i : Int) ∧ (i : Int) ≤ lastL a n) := by
  obtain ⟨x1, x2, _, x4, x5, x6⟩ := hx
  have hm : ∀ j, markZ (fun _ => 0) a n j = mkF a n j := fun j => by have := mkF_bounds a n j; simp only [markZ]; omega
  rw [Bool.eq_iff_iff, keptZ_iff, hm, hm, decide_eq_true_eq]
  by_cases hn : n ≤ 128
  · simp only [mkF, lastL, if_pos hn]
    by_cases h1 : (i : Int) = a / 128
    · rw [if_pos h1]
      refine ⟨fun _ => ⟨by omega, ?_⟩, fun _ => .inl (by decide)⟩
      split <;> omega
    · rw [if_neg h1]
      by_cases h2 : ((i - 1 : Nat) : Int) = a / 128
      · rw [if_pos h2]
        refine ⟨fun h => ?_, fun h => .inr ⟨by omega, rfl⟩⟩
        refine ⟨by omega, ?_⟩
        split <;> omega
      · rw [if_neg h2]
        refine ⟨fun h => ?_, fun ⟨h, h'⟩ => ?_⟩
        · rcases h with h | ⟨_, h⟩ <;> exact absurd h (by decide)
        · exfalso
          split at h' <;> omega
  · simp only [mkF, lastL, if_neg hn]
    by_cases h1 : a / 128 ≤ (i : Int) ∧ (i : Int) ≤ (a + n - 1) / 128
    · rw [if_pos h1]
      exact ⟨fun _ => h1, fun _ => .inl (by decide)⟩
    · rw [if_neg h1]
      refine ⟨fun h => ?_, fun h => absurd h h1⟩
      rcases h with h | ⟨_, h⟩
      · exact absurd h (by decide)
      · split at h <;> exact absurd h (by decide)
end Go.Proofs.YtgjhdjfjfmbejaaDoor
