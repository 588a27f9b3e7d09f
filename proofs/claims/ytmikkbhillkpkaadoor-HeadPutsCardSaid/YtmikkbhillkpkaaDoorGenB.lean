/-
  A scope out of which a goto jumps forward to a label of it, once. No program in sight.
-/
import Derived.ScopeJumps
import Derived.Test.YtmikkbhillkpkaaDoorGen
namespace Go.Proofs.YtmikkbhillkpkaaDoor
open Go.RowKit

section
variable {P : Program} {a : Act} {w : World} {Q : Exit → Act → World → Prop}
/-- At the jump the code from the label on is walked, with no jump more. -/
theorem wp_scope_goto {c rest : Code} (l : Nat) (hf : findLabel c l = some rest) (h : c.wp P (Exit.jump l (fun a w => rest.wp P (Exit.noGoto Q) a w) Q) a w) : (Code.scope c).wp P Q a w :=
  wp_scope_jumps l _ (fun _ _ => 0) hf h (fun _ _ h => Code.wp_mono (fun e _ _ q => by cases e <;> first | exact q | exact q.elim) h)
end
theorem Exit.jump_ret {l : Nat} {J : Act → World → Prop} {Q : Exit → Act → World → Prop} {a : Act} {w : World} : Exit.jump l J Q .ret a w = Q .ret a w := rfl
end Go.Proofs.YtmikkbhillkpkaaDoor
