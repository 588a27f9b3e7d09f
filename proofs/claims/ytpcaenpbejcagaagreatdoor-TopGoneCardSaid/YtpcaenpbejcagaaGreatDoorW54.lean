/- Lemmas for TopHalf and TopGone. Conditions: the listed variables hold what their initialisers lay. -/
import Derived.Test.YtpcaenpbejcagaaGreatDoorCards
import Derived.Test.YtpcaenpbejcagaaGreatDoorW00
import Derived.SevenTiedAt
set_option linter.all false
set_option maxRecDepth 100000
set_option maxHeartbeats 4000000
namespace Go.Proofs.YtpcaenpbejcagaaGreatDoor
section
open Go
theorem Az:((Rows.topGoneRow.kinds==(if Rows.topGoneRow.domain.isEmpty then[]else Tryz.f4.params.toList.map fun a=>match Tryz.prog.underlying a with|some (.int k)=>some k|_=>Option.none))&&(Rows.topGoneRow.pinned==Rows.topGoneRow.pinnedBy)&&(Rows.topGoneRow.veiled==(Tryz.f4.params.toList++Rows.topGoneSpec.plain.varTypes Tryz.prog++Tryz.f4.resultTypes.toList).any (Tryz.prog.veiledRec ·))&&Rows.topGoneRow.veiledFits Tryz.prog Tryz.f4.params.toList (Tryz.f4.params.toList++Rows.topGoneSpec.plain.varTypes Tryz.prog++Tryz.f4.resultTypes.toList))=true:=by kernel_rfl
end
end Go.Proofs.YtpcaenpbejcagaaGreatDoor
