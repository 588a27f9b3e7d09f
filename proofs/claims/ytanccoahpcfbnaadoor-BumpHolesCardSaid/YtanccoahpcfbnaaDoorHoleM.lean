/-
  hole.Fits: the first hole of a table that has at least so many lines; of no table, or at a number below 1: none.
-/
import Derived.Test.YtanccoahpcfbnaaDoorHoleL
namespace Go.Proofs.YtanccoahpcfbnaaDoor
open Go.RowKit Go.Lib Go.Shelf
attribute [local go_sem] Oper.semAt_some

/-- The first hole that has at least n lines, if n is a number of lines. -/
def fitO (q : Nat → Bool) (n : Int) : Option (Nat × Nat) := if 1 ≤ n then (holesZ q 0).find? (wantB n) else none

end Go.Proofs.YtanccoahpcfbnaaDoor
