/-
  hole.Longest: how many lines the longest hole of a table has; what lay in memory stays.
-/
import Derived.Test.YtanccoahpcfbnaaDoorHoleD
namespace Go.Proofs.YtanccoahpcfbnaaDoor
open Go.RowKit Go.Lib Go.Shelf
attribute [local go_sem] Oper.semAt_some

theorem KS.drewr {S : List Nat} {W X : World} (h : KS S W X) : KS S W X.drew := ⟨h.1, h.2⟩
/-- The length of the longest one of some holes. -/
def maxH (ps : List (Nat × Nat)) : Nat := ps.foldl (fun m p => max m (p.2 - p.1)) 0
theorem maxH_snoc (xs : List Hl) (x : Hl) : maxH (rawH (xs ++ [x])) = max (maxH (rawH xs)) (x.1.2 - x.1.1) := by simp [maxH, rawH, List.foldl_append]
theorem foldmax_le (ps : List (Nat × Nat)) (h : ∀ p ∈ ps, p.2 - p.1 ≤ 32) : ∀ m, m ≤ 32 → ps.foldl (fun m p => max m (p.2 - p.1)) m ≤ 32 := by
  induction ps with
  | nil => exact fun m hm => hm
  | cons p ps ih =>
    intro m hm
    have := h p (List.mem_cons_self)
    exact ih (fun q hq => h q (List.mem_cons_of_mem _ hq)) _ (Nat.max_le.2 ⟨hm, this⟩)
theorem maxH_le (xs : List Hl) : maxH (rawH xs) ≤ 32 := foldmax_le _ (fun p hp => by obtain ⟨x, _, rfl⟩ := List.mem_map.1 hp; have := x.2; omega) 0 (by omega)

end Go.Proofs.YtanccoahpcfbnaaDoor
