/- Lemmas for TopHalf and TopGone. Conditions: the listed variables hold what their initialisers lay. -/
import Derived.Test.YtpcaenpbejcagaaGreatDoorW30
set_option linter.all false
set_option maxRecDepth 100000
set_option maxHeartbeats 4000000
namespace Go.Proofs.YtpcaenpbejcagaaGreatDoor
section
open Go
theorem I6(a:Os)(b:Array Value):((M4 a).forCall (fun _ _=>0) ⟨#[],b,[]⟩).variablesZipB Tryz.prog=true:=by kernel_rfl
end
end Go.Proofs.YtpcaenpbejcagaaGreatDoor
