/-
  A list of numbers that came in, cut at thirty-four, is a table or none.
-/
import Derived.Test.YtanccoahpcfbnaaDoorRowKit
import Derived.Test.YtanccoahpcfbnaaDoorHoleH
namespace Go.Proofs.YtanccoahpcfbnaaDoor
open Go.RowKit

/-- What a list is, cut: no table, or one. -/
def TabOr (w : World) (p : Option Addr) (n cap : Nat) : Prop := NoTab w (.slice p (min n 34) cap) ∨ ∃ b o z, p = some ⟨b, o, none⟩ ∧ n = 32 ∧ Tab w b o z ∧ rightT z = true
/-- The number in a cell. -/
def cellZ (w : World) (b o i : Nat) : Int := match w.cell? ⟨b, o + i, none⟩ with
  | some (.int .i64 x) => x
  | _ => 0
theorem tabOr_of {w : World} {q : Option Addr} {n cap : Nat} (h : IC w q n) : TabOr w q n cap := by
  by_cases hn : n = 32
  · subst hn
    obtain ⟨b, o, x, rfl, _⟩ := h 0 (by omega)
    have hT : Tab w b o (cellZ w b o) := fun i hi => by
      obtain ⟨b', o', x', e, hc, _⟩ := h i hi
      simp at e
      obtain ⟨rfl, rfl⟩ := e
      unfold cellZ
      rw [hc]
    cases hr : rightT (cellZ w b o) with
    | true => exact .inr ⟨b, o, _, rfl, rfl, hT, hr⟩
    | false => exact .inl (.inr ⟨b, o, cap, _, rfl, hT, hr⟩)
  · exact .inl (.inl ⟨q, min n 34, cap, rfl, by omega⟩)
end Go.Proofs.YtanccoahpcfbnaaDoor
