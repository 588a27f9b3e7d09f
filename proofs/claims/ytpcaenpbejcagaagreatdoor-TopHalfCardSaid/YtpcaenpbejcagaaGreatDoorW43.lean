/- Lemmas for TopHalf and TopGone. Conditions: the listed variables hold what their initialisers lay. -/
import Derived.Test.YtpcaenpbejcagaaGreatDoorCards
import Derived.Test.YtpcaenpbejcagaaGreatDoorW00
import Derived.SevenTiedAt
set_option linter.all false
set_option maxRecDepth 100000
set_option maxHeartbeats 4000000
namespace Go.Proofs.YtpcaenpbejcagaaGreatDoor
section
open Go
theorem As:((Rows.topHalfRow.maps==(Tryz.f3.params.toList++Rows.topHalfSpec.plain.varTypes Tryz.prog).any (Tryz.prog.mapsRec ·))&&(Rows.topHalfRow.ifaces==(Tryz.f3.params.toList++Rows.topHalfSpec.plain.varTypes Tryz.prog).any (Tryz.prog.ifacesRec ·))&&(Rows.topHalfRow.mapsOut==Tryz.prog.mapsAmong Tryz.f3.resultTypes.toList)&&(Rows.topHalfRow.loops==(Tryz.f3.params.toList++Rows.topHalfSpec.plain.varTypes Tryz.prog).any (Tryz.prog.loopsFrom ·))&&(Rows.topHalfRow.wideKeys==(Tryz.f3.params.toList++Rows.topHalfSpec.plain.varTypes Tryz.prog++Tryz.f3.resultTypes.toList).any (Tryz.prog.wideKeysFrom ·))&&Rows.topHalfSpec.vars.all (Tryz.prog.varReadable ·)&&Tryz.f3.resultTypes.all (fun a=>Tryz.prog.readableRec a&&decide (a<Tryz.prog.types.size))&&(Rows.topHalfRow.ifacesOut==Tryz.f3.resultTypes.toList.any (Tryz.prog.ifacesRec ·))&&(Rows.topHalfRow.loopsOut==Tryz.f3.resultTypes.toList.any (Tryz.prog.loopsFrom ·)))=true:=by kernel_rfl
end
end Go.Proofs.YtpcaenpbejcagaaGreatDoor
