/-
  The holes of a table, in plain words: which lines lie in them, how many there are. No program in sight.
-/
namespace Go.Proofs.YtanccoahpcfbnaaDoor

/-- A hole: lines from one up to another one, within a block. -/
abbrev Hl := { p : Nat × Nat // p.1 < p.2 ∧ p.2 ≤ 32 }
/-- The first line from i on that is kept, or 32. -/
def stopAt (q : Nat → Bool) : Nat → Nat → Nat
  | 0, i => i
  | n + 1, i => if i < 32 ∧ q i = false then stopAt q n (i + 1) else i
/-- The holes from line i on (n: at least as many as lines are left). -/
def holesF (q : Nat → Bool) : Nat → Nat → List (Nat × Nat)
  | 0, _ => []
  | n + 1, i => if i < 32 then (if q i = true then holesF q n (i + 1) else (i, stopAt q 32 i) :: holesF q n (stopAt q 32 i)) else []

theorem stopAt_spec (q : Nat → Bool) (n : Nat) : ∀ i, 32 - i ≤ n → i ≤ stopAt q n i ∧ (i ≤ 32 → stopAt q n i ≤ 32) ∧ (∀ k, i ≤ k → k < stopAt q n i → q k = false) ∧ (stopAt q n i < 32 → q (stopAt q n i) = true) := by
  induction n with
  | zero =>
    intro i h
    simp only [stopAt]
    exact ⟨Nat.le_refl _, fun h => h, fun k h1 h2 => by omega, fun h1 => by omega⟩
  | succ n ih =>
    intro i h
    simp only [stopAt]
    by_cases hc : i < 32 ∧ q i = false
    · rw [if_pos hc]
      obtain ⟨h1, h2, h3, h4⟩ := ih (i + 1) (by omega)
      refine ⟨by omega, fun _ => h2 (by omega), fun k hk hk' => ?_, h4⟩
      by_cases e : k = i
      · rw [e]; exact hc.2
      · exact h3 k (by omega) hk'
    · rw [if_neg hc]
      refine ⟨Nat.le_refl _, fun h => h, fun k h1 h2 => by omega, fun h1 => ?_⟩
      cases hq : q i with
      | true => rfl
      | false => exact absurd ⟨h1, hq⟩ hc
/-- The end of the run from i on. -/
def stopZ (q : Nat → Bool) (i : Nat) : Nat := stopAt q 32 i
theorem stopZ_spec (q : Nat → Bool) (i : Nat) : i ≤ stopZ q i ∧ (i ≤ 32 → stopZ q i ≤ 32) ∧ (∀ k, i ≤ k → k < stopZ q i → q k = false) ∧ (stopZ q i < 32 → q (stopZ q i) = true) := stopAt_spec q 32 i (by omega)
theorem stopZ_eq (q : Nat → Bool) (i m : Nat) (h1 : i ≤ m) (h2 : m ≤ 32) (h3 : ∀ k, i ≤ k → k < m → q k = false) (h4 : m < 32 → q m = true) : stopZ q i = m := by
  obtain ⟨s1, s2, s3, s4⟩ := stopZ_spec q i
  have s2 := s2 (by omega)
  rcases Nat.lt_trichotomy (stopZ q i) m with h | h | h
  · have a := h3 _ s1 h
    have b := s4 (by omega)
    rw [a] at b; cases b
  · exact h
  · have a := s3 m h1 h
    have b := h4 (by omega)
    rw [a] at b; cases b
theorem stopZ_gt (q : Nat → Bool) (i : Nat) (hi : i < 32) (hq : q i = false) : i < stopZ q i := by
  obtain ⟨s1, _, _, s4⟩ := stopZ_spec q i
  rcases Nat.lt_or_ge i (stopZ q i) with h | h
  · exact h
  · have e : stopZ q i = i := by omega
    have := s4 (by omega)
    rw [e, hq] at this; cases this

theorem holesF_fuel (q : Nat → Bool) (n : Nat) : ∀ m i, 32 - i < n → 32 - i < m → holesF q n i = holesF q m i := by
  induction n with
  | zero => intro m i h; omega
  | succ n ih =>
    intro m i h h'
    obtain ⟨m, rfl⟩ : ∃ k, m = k + 1 := ⟨m - 1, by omega⟩
    simp only [holesF]
    by_cases hi : i < 32
    · rw [if_pos hi, if_pos hi]
      by_cases hq : q i = true
      · rw [if_pos hq, if_pos hq]; exact ih m (i + 1) (by omega) (by omega)
      · rw [if_neg hq, if_neg hq]
        have hg : i < stopAt q 32 i := stopZ_gt q i hi (by simpa using hq)
        rw [ih m (stopAt q 32 i) (by omega) (by omega)]
    · rw [if_neg hi, if_neg hi]
theorem holesF_step (q : Nat → Bool) (n i : Nat) : holesF q (n + 1) i = if i < 32 then (if q i = true then holesF q n (i + 1) else (i, stopAt q 32 i) :: holesF q n (stopAt q 32 i)) else [] := rfl
/-- The holes from line i on. -/
def holesZ (q : Nat → Bool) (i : Nat) : List (Nat × Nat) := holesF q 33 i
theorem holesZ_end (q : Nat → Bool) (i : Nat) (hi : 32 ≤ i) : holesZ q i = [] := by
  have h := holesF_step q 32 i
  rw [if_neg (by omega)] at h
  exact h
theorem holesZ_kept (q : Nat → Bool) (i : Nat) (hi : i < 32) (hq : q i = true) : holesZ q i = holesZ q (i + 1) := by
  show holesF q 33 i = holesF q 33 (i + 1)
  have h := holesF_step q 32 i
  rw [if_pos hi, if_pos hq] at h
  refine h.trans ?_
  exact holesF_fuel q _ _ _ (by omega) (by omega)
theorem holesZ_free (q : Nat → Bool) (i : Nat) (hi : i < 32) (hq : q i = false) : holesZ q i = (i, stopZ q i) :: holesZ q (stopZ q i) := by
  show holesF q 33 i = _
  have h := holesF_step q 32 i
  rw [if_pos hi, if_neg (by simp [hq])] at h
  refine h.trans ?_
  have hg := stopZ_gt q i hi hq
  unfold stopZ at hg
  unfold stopZ holesZ
  rw [holesF_fuel q 32 33 _ (by omega) (by omega)]
theorem holesZ_len (q : Nat → Bool) (n : Nat) : ∀ i, 32 - i ≤ n → (holesZ q i).length ≤ 32 - i := by
  induction n with
  | zero => intro i h; rw [holesZ_end q i (by omega)]; simp
  | succ n ih =>
    intro i h
    by_cases hi : i < 32
    · cases hq : q i with
      | true => rw [holesZ_kept q i hi hq]; have := ih (i + 1) (by omega); omega
      | false =>
        rw [holesZ_free q i hi hq]
        have hg := stopZ_gt q i hi hq
        have := ih (stopZ q i) (by omega)
        simp only [List.length_cons]
        omega
    · rw [holesZ_end q i (by omega)]; simp
end Go.Proofs.YtanccoahpcfbnaaDoor
