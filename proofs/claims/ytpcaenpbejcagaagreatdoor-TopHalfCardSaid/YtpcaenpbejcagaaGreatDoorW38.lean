/- Lemmas for TopHalf and TopGone. Conditions: the listed variables hold what their initialisers lay. -/
import Derived.Test.YtpcaenpbejcagaaGreatDoorCards
import Derived.Test.YtpcaenpbejcagaaGreatDoorW00
import Derived.SevenTiedAt
set_option linter.all false
set_option maxRecDepth 100000
set_option maxHeartbeats 4000000
namespace Go.Proofs.YtpcaenpbejcagaaGreatDoor
section
open Go
theorem Ax:(Rows.topHalfRow.wf (OpenSpec.ofChange Rows.topHalfSpec)&&laidOutB Tryz.prog&&mapsRowed Tryz.prog&&Tryz.f3.params.all (Tryz.prog.readableRec ·)&&namedTie Tryz.prog Rows.topHalfRow.named Rows.topHalfSpec.vars&&(Rows.topHalfRow.stops==[])&&(Tryz.prog.stops==[])&&(Rows.topHalfRow.knobs==[])&&(Tryz.prog.stopKnobs==[]))=true:=by kernel_rfl
end
end Go.Proofs.YtpcaenpbejcagaaGreatDoor
