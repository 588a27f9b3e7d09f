/-
  marks.marker.ways and its two ways; what lay in memory, but for the table that is marked, stays.
-/
import Derived.Test.YtgjhdjfjfmbejaaDoorMarkA
namespace Go.Proofs.YtgjhdjfjfmbejaaDoor
open Go.RowKit Go.Lib Go.Shelf
attribute [local go_sem] Oper.semAt_some

def WaysPost (w : World) (v : Value) (e : Ending) (w' : World) : Prop := e = .returned (.map (some (w.heap.size + 1))) ∧ w' = (w.alloc (.cells #[v] 50)).alloc (.map (wayEs w.heap.size) 2)
theorem ways_any (p : Option Addr) (n cap : Nat) (w : World) :
    Calls Tryd.prog 51 #[.agg #[.slice p n cap]] w (WaysPost w (.slice p n cap)) := by
  have hmm := @run_makeMap Tryd.prog
  have hs : (w.alloc (.cells #[.slice p n cap] 50)).heap.size = w.heap.size + 1 := by simp
  have h1 := fun (es : Array MapEntry) (c : Nat) (k : Int) (v : Value) hf => run_insert (W := (w.alloc (.cells #[.slice p n cap] 50)).alloc (.map es c)) (es := es) (clock := c) (heap_alloc_new (w.alloc (.cells #[.slice p n cap] 50)) _) k v hf
  simp only [alloc_set] at h1
  rw [hs] at h1
  have i1 := h1 #[] 0 1 (.func (.func 61) #[] #[.pointer (some ⟨w.heap.size, 0, none⟩)]) rfl
  have i2 := h1 #[⟨.int .i64 1, .func (.func 61) #[] #[.pointer (some ⟨w.heap.size, 0, none⟩)], 0⟩] 1 2 (.func (.func 62) #[] #[.pointer (some ⟨w.heap.size, 0, none⟩)]) rfl
  simp only [List.push_toArray, List.nil_append, List.cons_append, Nat.reduceAdd] at i1 i2
  clear h1 hs
  go_enter Tryd.func51, Tryd.ntmps51
  go_wp2
  go_ret
  exact ⟨rfl, rfl⟩

/-- Only block g has changed, among those that were there. -/
def Only (g : Nat) (w w' : World) : Prop := w.grownBy w' (some g)
theorem ways1_any (M g : Nat) (z : Nat → Int) (i : Nat) (l : Int) (w : World) (hM : Blk w M #[.slice (some ⟨g, 0, none⟩) 32 32] 50) (hG : Blk w g (tcells z) 3) (hi : i < 32) :
    Calls Tryd.prog 61 #[.int .i64 (i : Int), .int .i64 l, .pointer (some ⟨M, 0, none⟩)] w fun e w' => e = .returned (.tuple #[]) ∧ w' = w.setCell ⟨g, i, none⟩ (.int .i64 2) := by
  have cM : w.cell? ⟨M, 0, none⟩ = some (.slice (some ⟨g, 0, none⟩) 32 32) := hM.cell rfl
  have cG := hG.cell (tcells_get z i hi)
  have fG := hG.frozen i
  have i0 : (0 : Int) ≤ (i : Int) := by omega
  have i1 : (i : Int) < 32 := by omega
  clear hM hG
  go_enter Tryd.func61, Tryd.ntmps61
  go_wp2
  go_end0
  exact ⟨rfl, rfl⟩
end Go.Proofs.YtgjhdjfjfmbejaaDoor
