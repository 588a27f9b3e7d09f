/- Lemmas for TopHalf and TopGone. Conditions: the listed variables hold what their initialisers lay. -/
import Derived.Test.YtpcaenpbejcagaaGreatDoorCards
import Derived.Test.YtpcaenpbejcagaaGreatDoorW00
import Derived.SevenTiedAt
set_option linter.all false
set_option maxRecDepth 100000
set_option maxHeartbeats 4000000
namespace Go.Proofs.YtpcaenpbejcagaaGreatDoor
section
open Go
theorem Ap:Rows.topHalfRow.wfByText (OpenSpec.ofChange Rows.topHalfSpec)=true:=by kernel_rfl
theorem li:Tryz.prog.funcNamed "selion/seliontop.TopHalf"=some 3:=by kernel_rfl
theorem rU:([3,3,22,25,3].all fun u=>! Tryz.prog.wantsStandIn u)=true:=by kernel_rfl
theorem Ay:Rows.topGoneRow.wfByText (OpenSpec.ofChange Rows.topGoneSpec)=true:=by kernel_rfl
theorem lj:Tryz.prog.funcNamed "selion/seliontop.TopGone"=some 4:=by kernel_rfl
theorem rV:([3,3,22,3,3,3].all fun u=>! Tryz.prog.wantsStandIn u)=true:=by kernel_rfl
end
end Go.Proofs.YtpcaenpbejcagaaGreatDoor
