/- Lemmas for TopHalf and TopGone. Conditions: the listed variables hold what their initialisers lay. -/
import Derived.Test.YtpcaenpbejcagaaGreatDoorCards
import Derived.Test.YtpcaenpbejcagaaGreatDoorW00
import Derived.SevenTiedAt
set_option linter.all false
set_option maxRecDepth 100000
set_option maxHeartbeats 4000000
namespace Go.Proofs.YtpcaenpbejcagaaGreatDoor
section
open Go
theorem AB:((Rows.topGoneRow.maps==(Tryz.f4.params.toList++Rows.topGoneSpec.plain.varTypes Tryz.prog).any (Tryz.prog.mapsRec ·))&&(Rows.topGoneRow.ifaces==(Tryz.f4.params.toList++Rows.topGoneSpec.plain.varTypes Tryz.prog).any (Tryz.prog.ifacesRec ·))&&(Rows.topGoneRow.mapsOut==Tryz.prog.mapsAmong Tryz.f4.resultTypes.toList)&&(Rows.topGoneRow.loops==(Tryz.f4.params.toList++Rows.topGoneSpec.plain.varTypes Tryz.prog).any (Tryz.prog.loopsFrom ·))&&(Rows.topGoneRow.wideKeys==(Tryz.f4.params.toList++Rows.topGoneSpec.plain.varTypes Tryz.prog++Tryz.f4.resultTypes.toList).any (Tryz.prog.wideKeysFrom ·))&&Rows.topGoneSpec.vars.all (Tryz.prog.varReadable ·)&&Tryz.f4.resultTypes.all (fun a=>Tryz.prog.readableRec a&&decide (a<Tryz.prog.types.size))&&(Rows.topGoneRow.ifacesOut==Tryz.f4.resultTypes.toList.any (Tryz.prog.ifacesRec ·))&&(Rows.topGoneRow.loopsOut==Tryz.f4.resultTypes.toList.any (Tryz.prog.loopsFrom ·)))=true:=by kernel_rfl
end
end Go.Proofs.YtpcaenpbejcagaaGreatDoor
