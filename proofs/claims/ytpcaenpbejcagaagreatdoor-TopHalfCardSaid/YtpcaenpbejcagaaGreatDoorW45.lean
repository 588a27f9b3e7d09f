/- Lemmas for TopHalf and TopGone. Conditions: the listed variables hold what their initialisers lay. -/
import Derived.Test.YtpcaenpbejcagaaGreatDoorCards
import Derived.Test.YtpcaenpbejcagaaGreatDoorW00
import Derived.SevenTiedAt
set_option linter.all false
set_option maxRecDepth 100000
set_option maxHeartbeats 4000000
namespace Go.Proofs.YtpcaenpbejcagaaGreatDoor
section
open Go
theorem Aq:((Rows.topHalfRow.kinds==(if Rows.topHalfRow.domain.isEmpty then[]else Tryz.f3.params.toList.map fun a=>match Tryz.prog.underlying a with|some (.int k)=>some k|_=>Option.none))&&(Rows.topHalfRow.pinned==Rows.topHalfRow.pinnedBy)&&(Rows.topHalfRow.veiled==(Tryz.f3.params.toList++Rows.topHalfSpec.plain.varTypes Tryz.prog++Tryz.f3.resultTypes.toList).any (Tryz.prog.veiledRec ·))&&Rows.topHalfRow.veiledFits Tryz.prog Tryz.f3.params.toList (Tryz.f3.params.toList++Rows.topHalfSpec.plain.varTypes Tryz.prog++Tryz.f3.resultTypes.toList))=true:=by kernel_rfl
end
end Go.Proofs.YtpcaenpbejcagaaGreatDoor
