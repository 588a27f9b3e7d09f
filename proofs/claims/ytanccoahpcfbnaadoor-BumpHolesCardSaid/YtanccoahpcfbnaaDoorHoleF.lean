/-
  hole.Lengths: of each length how many holes of a table have it; what lay in memory stays.
-/
import Derived.Test.YtanccoahpcfbnaaDoorHoleE
namespace Go.Proofs.YtanccoahpcfbnaaDoor
open Go.RowKit Go.Lib Go.Shelf
attribute [local go_sem] Oper.semAt_some

/-- Thirty-three numbers. -/
def ncells (c : Nat → Nat) : Array Value := ((List.range 33).map fun i => Value.int .i64 ((c i : Nat) : Int)).toArray
theorem ncells_size (c : Nat → Nat) : (ncells c).size = 33 := by simp [ncells]
theorem ncells_get (c : Nat → Nat) (i : Nat) (hi : i < 33) : (ncells c)[i]? = some (.int .i64 ((c i : Nat) : Int)) := by simp [ncells, hi]
theorem ncells_set (c : Nat → Nat) (i m : Nat) (hi : i < 33) : (ncells c).setIfInBounds i (.int .i64 (m : Int)) = ncells (fun j => if j = i then m else c j) := by
  apply Array.ext_getElem?
  intro j
  rw [Array.getElem?_setIfInBounds]
  by_cases h : i = j
  · subst h
    rw [if_pos rfl, if_pos (by rw [ncells_size]; omega), ncells_get _ _ hi]
    simp
  · rw [if_neg h]
    by_cases hj : j < 33
    · rw [ncells_get _ _ hj, ncells_get _ _ hj]
      simp [Ne.symm h]
    · rw [Array.getElem?_eq_none (by rw [ncells_size]; omega), Array.getElem?_eq_none (by rw [ncells_size]; omega)]
/-- How many of some holes have length n. -/
def cntH (ps : List (Nat × Nat)) (n : Nat) : Nat := ps.countP fun p => p.2 - p.1 == n
theorem cntH_snoc (xs : List Hl) (x : Hl) : (fun j => if j = x.1.2 - x.1.1 then cntH (rawH xs) (x.1.2 - x.1.1) + 1 else cntH (rawH xs) j) = cntH (rawH (xs ++ [x])) := by
  funext j
  simp only [cntH, rawH, List.map_append, List.map_cons, List.map_nil, List.countP_append, List.countP_cons, List.countP_nil]
  by_cases h : j = x.1.2 - x.1.1
  · subst h; simp
  · simp [h, Ne.symm h]
theorem cntH_le (xs : List Hl) (n : Nat) : cntH (rawH xs) n ≤ xs.length := by
  unfold cntH rawH
  exact Nat.le_trans (List.countP_le_length) (by simp)
end Go.Proofs.YtanccoahpcfbnaaDoor
