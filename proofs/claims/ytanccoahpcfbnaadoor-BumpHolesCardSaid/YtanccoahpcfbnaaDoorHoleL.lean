/-
  finder.first with one thing wanted: the first hole that is so long; what lay in memory stays.
-/
import Derived.Test.YtanccoahpcfbnaaDoorHoleK
import Derived.Deep.RegionHeld3
namespace Go.Proofs.YtanccoahpcfbnaaDoor
open Go.RowKit Go.Lib Go.Shelf
attribute [local go_sem] Oper.semAt_some

theorem keepsFrom_below {B : Nat} {W W' : World} (h : Below W.heap.size W W') : KeepsFrom B W W' := ⟨h.size, fun k _ _ hk _ => (h.block k (Array.getElem?_eq_some_iff.1 hk).1).trans hk⟩
/-- Has a hole at least n lines? -/
def wantB (n : Int) (p : Nat × Nat) : Bool := decide (n ≤ ((p.2 - p.1 : Nat) : Int))

def noneW (n : Int) (pre : List Hl) : Prop := ∀ x ∈ pre, wantB n x.1 = false
def lastW (n : Int) (pre : List Hl) : Prop := ∃ p x, pre = p ++ [x] ∧ noneW n p ∧ wantB n x.1 = true
theorem noneW_nil (n : Int) : noneW n [] := fun _ h => by cases h
theorem noneW_snoc {n : Int} {pre : List Hl} {x : Hl} (h : noneW n pre) (hx : wantB n x.1 = false) : noneW n (pre ++ [x]) := fun y hy => by
  rcases List.mem_append.1 hy with hy | hy
  · exact h y hy
  · simp at hy; subst hy; exact hx
theorem lastW_snoc {n : Int} {pre : List Hl} {x : Hl} (h : noneW n pre) (hx : wantB n x.1 = true) : lastW n (pre ++ [x]) := ⟨pre, x, rfl, h, hx⟩
theorem noneW_find {n : Int} {pre : List Hl} (h : noneW n pre) : (rawH pre).find? (wantB n) = none := by
  rw [List.find?_eq_none]
  intro p hp
  obtain ⟨x, hx, rfl⟩ := List.mem_map.1 hp
  rw [h x hx]; decide
theorem lastW_find {n : Int} {p : List Hl} {x : Hl} (h : noneW n p) (hx : wantB n x.1 = true) (t : List (Nat × Nat)) : (rawH (p ++ [x]) ++ t).find? (wantB n) = some x.1 := by
  rw [rawH_snoc, List.find?_append, List.find?_append, noneW_find h]
  simp [hx]

/-- The end of 'first': what is found is what is given back. -/
theorem first_endR (o : Option (Nat × Nat)) (w W W3 : World) (D : Nat) (r : Option (Nat × Nat)) (u v : Int) (hr : hole2 r = #[.int .i64 u, .int .i64 v]) (hh : o = r) (hw : w.heap.size ≤ W3.heap.size) (hD : W3.heap.size ≤ D) (hK : W.heap[D]? = some (.deferred (some [])))
    (g3 : Blk W (w.heap.size + 1 + 1) #[.int .i64 0, .int .i64 0] 53) (g5 : Below w.heap.size w W) (tmps : Array Value) (h4 : tmps.getD 4 undef = .pointer (some ⟨w.heap.size + 1 + 1, 0, none⟩)) (h5 : tmps.getD 5 undef = .bool r.isSome) :
    bodyPostM Fence.wide 9 Tryd.prog Tryd.f53 (fun e w' => e = .returned (firstV o) ∧ Below w.heap.size w w') .ret { tmps := tmps, defers := [{ target := .collected D, args := #[] }] } ((W.setCell ⟨w.heap.size + 1 + 1, 0, none⟩ (.int .i64 u)).setCell ⟨w.heap.size + 1 + 1, 1, none⟩ (.int .i64 v)).drew := by
  have hK' : ((W.setCell ⟨w.heap.size + 1 + 1, 0, none⟩ (.int .i64 u)).setCell ⟨w.heap.size + 1 + 1, 1, none⟩ (.int .i64 v)).drew.heap[D]? = some (.deferred (some [])) := ((KeepsOthers.setCell W ⟨w.heap.size + 1 + 1, 0, none⟩ (.int .i64 u)).trans (KeepsOthers.setCell _ ⟨w.heap.size + 1 + 1, 1, none⟩ (.int .i64 v))).same D _ hK rfl
  have bN := blk_putObj (.deferred none) (((g3.set 0 (.int .i64 u)).set 1 (.int .i64 v)).drew) hK' rfl
  have hr' : (#[Value.int IntKind.i64 0, Value.int IntKind.i64 0].setIfInBounds 0 (Value.int IntKind.i64 u)).setIfInBounds 1 (Value.int IntKind.i64 v) = hole2 r := hr.symm
  rw [hr'] at bN
  have hs : (hole2 r).size = 2 := by rw [hr]; rfl
  have hrow := run_loadVar_row (P := Tryd.prog) _ (w.heap.size + 1 + 1) 53 53 _ (0, 0) _ bN Tryd.underlying53 rfl (by rw [hs]; exact Tryd.infoHole2)
  refine ⟨by simp, .inl ⟨_, _, rfl, run_takeDeferred hK', ?_⟩⟩
  refine ⟨firstV r, res_cell_tmp rfl _ _ _ _ _ h5 h4 hrow, by rw [hh], ?_⟩
  have hbb := ((g5.setCell (p := ⟨w.heap.size + 1 + 1, 0, none⟩) (by simp; omega) (.int .i64 u)).setCell (p := ⟨w.heap.size + 1 + 1, 1, none⟩) (by simp; omega) (.int .i64 v)).drew
  exact hbb.trans (belowK_b (w := W3) hw _ D _ _ hD hK' rfl rfl)

end Go.Proofs.YtanccoahpcfbnaaDoor
