/-
  selionlaw07.Cut of thirty-two, hole.Next and hole.All by cases.
-/
import Derived.Test.YtanccoahpcfbnaaDoorHoleO
import Derived.Test.YtanccoahpcfbnaaDoorHoleWalkPlain
import Derived.Test.YtanccoahpcfbnaaDoorRowTab
namespace Go.Proofs.YtanccoahpcfbnaaDoor
open Go.RowKit Go.Lib Go.Shelf
attribute [local go_sem] Oper.semAt_some

theorem cut_32 (p : Option Addr) (cap : Nat) (w : World) (h : 32 ≤ cap) (hm : cap ≤ maxLen) :
    Calls Tryd.prog 19 #[.slice p 32 cap] w fun e w' => e = .returned (.slice p 32 cap) ∧ w = w' := cut_any p 32 cap w h hm
theorem next_at (b o cap : Nat) (z : Nat → Int) (f : Int) (x : Nat × Nat) (w : World) (hT : Tab w b o z) (hr : rightT z = true) (hx : (holesZ (keptZ z) (line0 f)).head? = some x) :
    Calls Tryd.prog 39 #[.slice (some ⟨b, o, none⟩) 32 cap, .int .i64 f] w fun e w' => e = .returned (.tuple #[.agg #[.int .i64 (x.1 : Int), .int .i64 (x.2 : Int)], .bool true]) ∧ Below w.heap.size w w' := by
  have := next_yes b o cap z f w hT hr
  rwa [hx] at this
theorem next_off (b o cap : Nat) (z : Nat → Int) (f : Int) (w : World) (hT : Tab w b o z) (hr : rightT z = true) (hx : (holesZ (keptZ z) (line0 f)).head? = none) :
    Calls Tryd.prog 39 #[.slice (some ⟨b, o, none⟩) 32 cap, .int .i64 f] w fun e w' => e = .returned (.tuple #[.agg #[.int .i64 0, .int .i64 0], .bool false]) ∧ Below w.heap.size w w' := by
  have := next_yes b o cap z f w hT hr
  rwa [hx] at this
theorem next_atN (b o cap : Nat) (z : Nat → Int) (f : Nat) (x : Nat × Nat) (w : World) (hT : Tab w b o z) (hr : rightT z = true) (hx : (holesZ (keptZ z) f).head? = some x) :
    Calls Tryd.prog 39 #[.slice (some ⟨b, o, none⟩) 32 cap, .int .i64 (f : Int)] w fun e w' => e = .returned (.tuple #[.agg #[.int .i64 (x.1 : Int), .int .i64 (x.2 : Int)], .bool true]) ∧ Below w.heap.size w w' :=
  next_at b o cap z f x w hT hr (by rw [show line0 (f : Int) = f from rfl]; exact hx)
theorem next_offN (b o cap : Nat) (z : Nat → Int) (f : Nat) (w : World) (hT : Tab w b o z) (hr : rightT z = true) (hx : (holesZ (keptZ z) f).head? = none) :
    Calls Tryd.prog 39 #[.slice (some ⟨b, o, none⟩) 32 cap, .int .i64 (f : Int)] w fun e w' => e = .returned (.tuple #[.agg #[.int .i64 0, .int .i64 0], .bool false]) ∧ Below w.heap.size w w' :=
  next_off b o cap z f w hT hr (by rw [show line0 (f : Int) = f from rfl]; exact hx)
theorem next_no' (v : Value) (f : Int) (w : World) (h : NoTab w v) :
    Calls Tryd.prog 39 #[v, .int .i64 f] w fun e w' => e = .returned (.tuple #[.agg #[.int .i64 0, .int .i64 0], .bool false]) ∧ Below w.heap.size w w' := next_no v f w h
def AllH (w : World) (ps : List (Nat × Nat)) (e : Ending) (w' : World) : Prop := ∃ g, e = .returned (.tuple #[.slice (some ⟨g, 0, none⟩) ps.length ps.length, .int .i64 0]) ∧ HL w' (.slice (some ⟨g, 0, none⟩) ps.length ps.length) ps ∧ Below w.heap.size w w'
theorem all_h (b o cap : Nat) (z : Nat → Int) (w : World) (hT : Tab w b o z) (hr : rightT z = true) :
    Calls Tryd.prog 30 #[.slice (some ⟨b, o, none⟩) 32 cap] w (AllH w (holesZ (keptZ z) 0)) := by
  refine (all_yes b o cap z w hT hr).mono ?_
  rintro e w' ⟨g, rfl, hH, hb⟩
  exact ⟨g, rfl, HL.all hH (by have := holesZ_len (keptZ z) 32 0 (by omega); omega), hb⟩
theorem HL.at {w : World} {p : Option Addr} {n cap : Nat} {ps : List (Nat × Nat)} (h : HL w (.slice p n cap) ps) {i : Nat} {x : Nat × Nat} (hx : ps[i]? = some x) : ∃ b o, p = some ⟨b, o, none⟩ ∧ w.cell? ⟨b, o + i * 2, none⟩ = some (.int .i64 (x.1 : Int)) ∧ w.cell? ⟨b, o + i * 2 + 1, none⟩ = some (.int .i64 (x.2 : Int)) := by
  obtain ⟨p', cap', e, _, hc⟩ := h
  simp at e
  obtain ⟨rfl, _, _⟩ := e
  exact hc i x hx
end Go.Proofs.YtanccoahpcfbnaaDoor
