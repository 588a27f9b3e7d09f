/-
  In how many holes a line is; holes rise. No program in sight.
-/
import Derived.Test.YtanccoahpcfbnaaDoorHoleWalkPlain
namespace Go.Proofs.YtanccoahpcfbnaaDoor

/-- Is a line in a hole? -/
def inB (line : Int) (p : Nat × Nat) : Bool := decide ((p.1 : Int) ≤ line ∧ line < (p.2 : Int))
/-- In how many of some holes a line is. -/
def cntL (line : Int) (ps : List (Nat × Nat)) : Nat := (ps.filter (inB line)).length
theorem cntL_take (line : Int) (ps : List (Nat × Nat)) (k : Nat) (x : Nat × Nat) (h : ps[k]? = some x) : cntL line (ps.take (k + 1)) = cntL line (ps.take k) + (if inB line x = true then 1 else 0) := by
  obtain ⟨hk, rfl⟩ := List.getElem?_eq_some_iff.1 h
  unfold cntL
  rw [List.take_succ_eq_append_getElem hk, List.filter_append, List.length_append, List.filter_cons]
  split <;> simp
theorem cntL_le (line : Int) (ps : List (Nat × Nat)) : cntL line ps ≤ ps.length := List.length_filter_le _ _
theorem cntL_holes (q : Nat → Bool) (line : Nat) (n : Nat) : ∀ i, 32 - i ≤ n → cntL (line : Int) (holesZ q i) = if i ≤ line ∧ line < 32 ∧ q line = false then 1 else 0 := by
  induction n with
  | zero => intro i h; rw [holesZ_end q i (by omega), if_neg (by omega)]; rfl
  | succ n ih =>
    intro i h
    by_cases hi : i < 32
    · cases hq : q i with
      | true =>
        rw [holesZ_kept q i hi hq, ih (i + 1) (by omega)]
        by_cases e : line = i
        · subst e; rw [if_neg (by omega), if_neg (by rw [hq]; simp)]
        · by_cases hc : i ≤ line ∧ line < 32 ∧ q line = false
          · rw [if_pos hc, if_pos ⟨by omega, hc.2⟩]
          · rw [if_neg hc, if_neg (fun h => hc ⟨by omega, h.2⟩)]
      | false =>
        have hg := stopZ_gt q i hi hq
        obtain ⟨s1, s2, s3, s4⟩ := stopZ_spec q i
        have s2 := s2 (by omega)
        rw [holesZ_free q i hi hq]
        have h1 : cntL (line : Int) ((i, stopZ q i) :: holesZ q (stopZ q i)) = (if i ≤ line ∧ line < stopZ q i then 1 else 0) + cntL (line : Int) (holesZ q (stopZ q i)) := by
          unfold cntL
          rw [List.filter_cons]
          by_cases hc : i ≤ line ∧ line < stopZ q i
          · rw [if_pos hc, if_pos (by simp [inB]; omega), List.length_cons]; omega
          · rw [if_neg hc, if_neg (by simp [inB]; omega)]; omega
        rw [h1, ih _ (by omega)]
        by_cases ha : i ≤ line ∧ line < stopZ q i
        · rw [if_pos ha, if_neg (by omega), if_pos ⟨ha.1, by omega, s3 line ha.1 ha.2⟩]
        · rw [if_neg ha]
          by_cases hc : i ≤ line ∧ line < 32 ∧ q line = false
          · rw [if_pos hc, if_pos ⟨by omega, hc.2⟩]
          · rw [if_neg hc, if_neg (fun h => hc ⟨by omega, h.2⟩)]
    · rw [holesZ_end q i (by omega), if_neg (by omega)]; rfl
theorem holesZ_bounds (q : Nat → Bool) (n : Nat) : ∀ i, 32 - i ≤ n → ∀ x ∈ holesZ q i, x.1 < x.2 ∧ x.2 ≤ 32 := by
  induction n with
  | zero => intro i h x hx; rw [holesZ_end q i (by omega)] at hx; cases hx
  | succ n ih =>
    intro i h x hx
    cases he : holesZ q i with
    | nil => rw [he] at hx; cases hx
    | cons y rest =>
      obtain ⟨h1, h2, h3, _, _, _, h7⟩ := holesZ_cons q 32 i (by omega) y rest he
      rw [he] at hx
      rcases List.mem_cons.1 hx with rfl | hx
      · exact ⟨h2, h3⟩
      · exact ih y.2 (by omega) x (by rw [h7]; exact hx)
theorem cntL_out (line : Int) (ps : List (Nat × Nat)) (hp : ∀ x ∈ ps, x.1 < x.2 ∧ x.2 ≤ 32) (h : line < 0 ∨ 32 ≤ line) : cntL line ps = 0 := by
  unfold cntL
  rw [List.length_eq_zero_iff, List.filter_eq_nil_iff]
  intro x hx
  have := hp x hx
  simp [inB]
  omega
/-- What the holes of a table are: each from a line to a greater one, each behind the one ahead of it. -/
theorem rise (q : Nat → Bool) (k : Nat) (x y : Nat × Nat) (hx : (holesZ q 0)[k]? = some x) (hy : (holesZ q 0)[k + 1]? = some y) : x.2 < y.1 := by
  obtain ⟨hk, hk'⟩ := List.getElem?_eq_some_iff.1 hy
  obtain ⟨hj, hj'⟩ := List.getElem?_eq_some_iff.1 hx
  have h := walk_drop q (k + 1) (by omega)
  have hz := walk_drop q k (by omega)
  rw [endAt_succ _ k x hx, List.drop_eq_getElem_cons hk, hk'] at h
  rw [List.drop_eq_getElem_cons hj, hj'] at hz
  obtain ⟨h1, h2, h3, h4, h5, h6, _⟩ := holesZ_cons q 32 _ (by omega) x _ hz
  obtain ⟨g1, g2, g3, g4, g5, g6, _⟩ := holesZ_cons q 32 _ (by omega) y _ h
  by_cases e : y.1 = x.2
  · have a := g5 y.1 (Nat.le_refl _) g2
    rw [e, h6 (by omega)] at a
    cases a
  · omega
end Go.Proofs.YtanccoahpcfbnaaDoor
