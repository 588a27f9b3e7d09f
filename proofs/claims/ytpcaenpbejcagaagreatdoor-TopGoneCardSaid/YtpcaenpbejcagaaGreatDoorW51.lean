/- Lemmas for TopHalf and TopGone. Conditions: the listed variables hold what their initialisers lay. -/
import Derived.Test.YtpcaenpbejcagaaGreatDoorCards
import Derived.Test.YtpcaenpbejcagaaGreatDoorW00
import Derived.SevenTiedAt
set_option linter.all false
set_option maxRecDepth 100000
set_option maxHeartbeats 4000000
namespace Go.Proofs.YtpcaenpbejcagaaGreatDoor
section
open Go
theorem AD:(Rows.topGoneRow.named==Tryz.prog.varsNamed 4)=true:=by kernel_rfl
end
end Go.Proofs.YtpcaenpbejcagaaGreatDoor
