/- Lemmas for TopHalf and TopGone. Conditions: the listed variables hold what their initialisers lay. -/
import Derived.Test.YtpcaenpbejcagaaGreatDoorW26
set_option linter.all false
set_option maxRecDepth 100000
set_option maxHeartbeats 4000000
namespace Go.Proofs.YtpcaenpbejcagaaGreatDoor
section
open Go
theorem MH(a:Os)(b:Tape):(DataW.laidRun Tryz.prog (varsWorld Tryz.prog 4000 (varsId Tryz.prog) a b).memory 8 ((Nc.filter fun x=>x.2.handleName?.isNone).map (·.1))).map (·.1)=some (Nc.filter fun x=>x.2.handleName?.isNone):=by kernel_rfl
end
end Go.Proofs.YtpcaenpbejcagaaGreatDoor
