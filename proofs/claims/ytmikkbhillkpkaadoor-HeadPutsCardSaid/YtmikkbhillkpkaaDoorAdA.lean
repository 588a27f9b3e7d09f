/-
  Package addr's variables, its tests of addresses and sizes, its checks.
-/
import Derived.Test.YtmikkbhillkpkaaDoorIs
import Derived.Test.YtmikkbhillkpkaaDoorGen
import Derived.WalkKit
import Derived.Below
import Derived.Lib.Hide
import Derived.Outline
import Derived.Deep.RegionHeld3
import Derived.LoopTactic
namespace Go.Proofs.YtmikkbhillkpkaaDoor.Ad
open Go.RowKit Go.Lib

/-- A package-level error of errors.New's make: variable g points to block a, which bears no frozen range. -/
def Sent (w : World) (g : Nat) (a : Addr) : Prop := w.cell? ⟨g, 0, none⟩ = some (.iface 118 (.pointer (some a))) ∧ ∃ c t, w.heap[a.block]? = some (.cells c t (0, 0))
theorem Sent.below {w w' : World} {g : Nat} {a : Addr} (h : Sent w g a) (hb : Below w.heap.size w w') : Sent w' g a := by
  obtain ⟨h1, c, t, h2⟩ := h
  exact ⟨(hb.cell (p := ⟨g, 0, none⟩) (World.block_lt_of_cell? w _ h1)).trans h1, c, t, (hb.block _ (Array.getElem?_eq_some_iff.1 h2).1).trans h2⟩
/-- What package addr's variables hold. -/
structure AV (w : World) (aA aS aR : Addr) : Prop where
  cA : Sent w 6 aA
  cS : Sent w 8 aS
  cR : Sent w 9 aR
  nAS : aA ≠ aS
  nAR : aA ≠ aR
  nSR : aS ≠ aR
  w0 : w.cell? ⟨5, 0, none⟩ = some (.int .i64 4096)
  w1 : w.cell? ⟨5, 1, none⟩ = some (.int .i64 128)
  w2 : w.cell? ⟨5, 2, none⟩ = some (.int .i64 1)
theorem AV.below {w w' : World} {aA aS aR : Addr} (h : AV w aA aS aR) (hb : Below w.heap.size w w') : AV w' aA aS aR :=
  { cA := h.cA.below hb, cS := h.cS.below hb, cR := h.cR.below hb, nAS := h.nAS, nAR := h.nAR, nSR := h.nSR
    w0 := cell_below h.w0 hb, w1 := cell_below h.w1 hb, w2 := cell_below h.w2 hb
  }
def rightB (a : Int) : Bool := decide (0 ≤ a ∧ a < 131072)
def sizeB (n : Int) : Bool := decide (1 ≤ n ∧ n ≤ 131072)
theorem right_any (a : Int) (w : World) : Calls Tryd.prog 51 #[.int .i64 a] w fun e w' => e = .returned (.bool (rightB a)) ∧ w = w' := by
  by_cases h1 : 0 ≤ a
  · by_cases h2 : a < 131072
    · have hr : rightB a = true := by simp [rightB, h1, h2]
      rw [hr]
      clear hr
      go_enter Tryd.func51, Tryd.ntmps51
      go_wp2
      go_ret
      exact ⟨rfl, rfl⟩
    · have hr : rightB a = false := by simp [rightB, h2]
      rw [hr]
      clear hr
      go_enter Tryd.func51, Tryd.ntmps51
      go_wp2
      go_ret
      exact ⟨rfl, rfl⟩
  · have hr : rightB a = false := by simp [rightB, h1]
    rw [hr]
    clear hr
    go_enter Tryd.func51, Tryd.ntmps51
    go_wp2
    go_ret
    exact ⟨rfl, rfl⟩
/-- unless lays two boxes and hands back the closure over them. -/
theorem unless_any (b : Bool) (a : Addr) (w : World) :
    Calls Tryd.prog 50 #[.bool b, .iface 118 (.pointer (some a))] w fun e w' => e = .returned (.func (.func 57) #[] #[.pointer (some ⟨w.heap.size, 0, none⟩), .pointer (some ⟨w.heap.size + 1, 0, none⟩)]) ∧
      w' = (w.alloc (.cells #[.bool b] 4)).alloc (.cells #[.iface 118 (.pointer (some a))] 57) := by
  go_enter Tryd.func50, Tryd.ntmps50
  go_wp2
  go_ret
  exact ⟨rfl, rfl⟩
theorem unless1_yes (p q : Nat) (w : World) (hp : w.cell? ⟨p, 0, none⟩ = some (.bool true)) :
    Calls Tryd.prog 57 #[.pointer (some ⟨p, 0, none⟩), .pointer (some ⟨q, 0, none⟩)] w fun e w' => e = .returned .nilIface ∧ w = w' := by
  go_enter Tryd.func57, Tryd.ntmps57
  go_wp2
  go_ret
  exact ⟨rfl, rfl⟩
theorem unless1_no (p q : Nat) (a : Addr) (w : World) (hp : w.cell? ⟨p, 0, none⟩ = some (.bool false)) (hq : w.cell? ⟨q, 0, none⟩ = some (.iface 118 (.pointer (some a)))) :
    Calls Tryd.prog 57 #[.pointer (some ⟨p, 0, none⟩), .pointer (some ⟨q, 0, none⟩)] w fun e w' => e = .returned (.iface 118 (.pointer (some a))) ∧ w = w' := by
  go_enter Tryd.func57, Tryd.ntmps57
  go_wp2
  go_ret
  exact ⟨rfl, rfl⟩
/-- One check that holds. -/
theorem refused1_yes (s p q : Nat) (w : World)
    (hs : w.cell? ⟨s, 0, none⟩ = some (.func (.func 57) #[] #[.pointer (some ⟨p, 0, none⟩), .pointer (some ⟨q, 0, none⟩)])) (hp : w.cell? ⟨p, 0, none⟩ = some (.bool true)) :
    Calls Tryd.prog 49 #[.slice (some ⟨s, 0, none⟩) 1 1] w fun e w' => e = .returned (.int .i64 0) ∧ w = w' := by
  go_enter Tryd.func49, Tryd.ntmps49
  go_wp2
  refine wp_loop_rounds 2 ?_
  rw [rounds_succ]
  go_wp2_with (go_at_call 57; refine (unless1_yes _ _ _ hp).mono ?_; rintro e w' ⟨rfl, rfl⟩)
  rw [rounds_succ]
  go_wp2
  go_ret
  exact ⟨rfl, rfl⟩
end Go.Proofs.YtmikkbhillkpkaaDoor.Ad
