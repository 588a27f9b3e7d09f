/- Lemmas for TopHalf and TopGone. Conditions: the listed variables hold what their initialisers lay. -/
import Derived.Test.YtpcaenpbejcagaaGreatDoorCards
import Derived.SevenTiedAt
import Derived.LaidSub
import Derived.LaidOnce
set_option linter.all false
set_option maxRecDepth 100000
set_option maxHeartbeats 4000000
namespace Go.Proofs.YtpcaenpbejcagaaGreatDoor
section
open Go
def Nc:List (String×DataW Unit):=Rows.topHalfRow.laid.drop 1
def Ng:List LaidKind:=Rows.topHalfCard.laidKinds.drop 1
theorem MO:Tryz.prog.worded (varsWordLater true)=true:=by kernel_rfl
theorem MN:Tryz.prog.worded (varsWordLater ! true)=false:=by kernel_rfl
theorem MM:Tryz.prog.worded rootWordLater=true:=by kernel_rfl
theorem ML:Nc.map (fun x=>Tryz.prog.kindOfLater x.1)=Ng.map some:=by kernel_rfl
theorem MK:(Tryz.prog.funcNamed "gosem.cut.vars").isSome=true:=by kernel_rfl
theorem MJ:varsNamedLaterB Tryz.prog (varsId Tryz.prog) Nc=true:=by kernel_rfl
theorem MI(a:Os)(b:Tape):varsDone Tryz.prog 4000 (varsId Tryz.prog) a b=true:=by kernel_rfl
theorem L6:Tryz.pinned.checked.prog.pinnedFits "unicode/utf8.first"=true:=by kernel_rfl
theorem KZ:Tryz.pinned.checked.prog.headLifts.contains "ownunsafe"=false:=by kernel_rfl
theorem IU:Tryz.pinned.checked.prog.listedFits Rows.topHalfRow.laid=true:=by unfold Program.listedFits;rw[KZ];kernel_rfl
end
end Go.Proofs.YtpcaenpbejcagaaGreatDoor
