/-
  From the end of one hole the next one is the next of the list. No program in sight.
-/
import Derived.Test.YtanccoahpcfbnaaDoorHolePlain
namespace Go.Proofs.YtanccoahpcfbnaaDoor

/-- Where the search for hole k begins: at 0, or where hole k - 1 ends. -/
def endAt (ps : List (Nat × Nat)) : Nat → Nat
  | 0 => 0
  | k + 1 => (ps[k]?.map (·.2)).getD 0
/-- The head of the holes from line i on: the first free line from i on. -/
theorem holesZ_cons (q : Nat → Bool) (n : Nat) : ∀ i, 32 - i ≤ n → ∀ x rest, holesZ q i = x :: rest → i ≤ x.1 ∧ x.1 < x.2 ∧ x.2 ≤ 32 ∧ (∀ k, i ≤ k → k < x.1 → q k = true) ∧ (∀ k, x.1 ≤ k → k < x.2 → q k = false) ∧ (x.2 < 32 → q x.2 = true) ∧ holesZ q x.2 = rest := by
  induction n with
  | zero => intro i h x rest he; rw [holesZ_end q i (by omega)] at he; cases he
  | succ n ih =>
    intro i h x rest he
    by_cases hi : i < 32
    · cases hq : q i with
      | true =>
        rw [holesZ_kept q i hi hq] at he
        obtain ⟨h1, h2, h3, h4, h5⟩ := ih (i + 1) (by omega) x rest he
        refine ⟨by omega, h2, h3, fun k hk hk' => ?_, h5⟩
        by_cases e : k = i
        · rw [e]; exact hq
        · exact h4 k (by omega) hk'
      | false =>
        rw [holesZ_free q i hi hq] at he
        injection he with e1 e2
        subst e1
        obtain ⟨s1, s2, s3, s4⟩ := stopZ_spec q i
        exact ⟨Nat.le_refl _, stopZ_gt q i hi hq, s2 (by omega), fun k h1 h2 => by simp at h2; omega, s3, s4, e2⟩
    · rw [holesZ_end q i (by omega)] at he; cases he
theorem holesZ_nil (q : Nat → Bool) (n : Nat) : ∀ i, 32 - i ≤ n → holesZ q i = [] → ∀ k, i ≤ k → k < 32 → q k = true := by
  induction n with
  | zero => intro i h _ k h1 h2; omega
  | succ n ih =>
    intro i h he k h1 h2
    cases hq : q i with
    | true =>
      rw [holesZ_kept q i (by omega) hq] at he
      by_cases e : k = i
      · rw [e]; exact hq
      · exact ih (i + 1) (by omega) he k (by omega) h2
    | false => rw [holesZ_free q i (by omega) hq] at he; cases he
theorem holesZ_next {q : Nat → Bool} {i : Nat} {x : Nat × Nat} {rest : List (Nat × Nat)} (h : holesZ q i = x :: rest) : holesZ q x.2 = rest := (holesZ_cons q 32 i (by omega) x rest h).2.2.2.2.2.2
theorem walk_drop (q : Nat → Bool) (k : Nat) (hk : k ≤ (holesZ q 0).length) : holesZ q (endAt (holesZ q 0) k) = (holesZ q 0).drop k := by
  induction k with
  | zero => rw [List.drop_zero, endAt]
  | succ k ih =>
    have hk' : k < (holesZ q 0).length := by omega
    have h := ih (by omega)
    rw [List.drop_eq_getElem_cons hk'] at h
    have := holesZ_next h
    simp only [endAt, List.getElem?_eq_getElem hk', Option.map_some, Option.getD_some]
    exact this
theorem walk_head (q : Nat → Bool) (k : Nat) (hk : k ≤ (holesZ q 0).length) : (holesZ q (endAt (holesZ q 0) k)).head? = (holesZ q 0)[k]? := by
  rw [walk_drop q k hk, List.head?_drop]
theorem endAt_succ (ps : List (Nat × Nat)) (k : Nat) (x : Nat × Nat) (h : ps[k]? = some x) : endAt ps (k + 1) = x.2 := by simp [endAt, h]
end Go.Proofs.YtanccoahpcfbnaaDoor
