/- Lemmas for TopHalf and TopGone. Conditions: the listed variables hold what their initialisers lay. -/
import Derived.Test.YtpcaenpbejcagaaGreatDoorCards
import Derived.Test.YtpcaenpbejcagaaGreatDoorW00
import Derived.SevenTiedAt
set_option linter.all false
set_option maxRecDepth 100000
set_option maxHeartbeats 4000000
namespace Go.Proofs.YtpcaenpbejcagaaGreatDoor
section
open Go
theorem AH:(Rows.topGoneRow.wf (OpenSpec.ofChange Rows.topGoneSpec)&&laidOutB Tryz.prog&&mapsRowed Tryz.prog&&Tryz.f4.params.all (Tryz.prog.readableRec ·)&&namedTie Tryz.prog Rows.topGoneRow.named Rows.topGoneSpec.vars&&(Rows.topGoneRow.stops==[])&&(Tryz.prog.stops==[])&&(Rows.topGoneRow.knobs==[])&&(Tryz.prog.stopKnobs==[]))=true:=by kernel_rfl
end
end Go.Proofs.YtpcaenpbejcagaaGreatDoor
