/- Lemmas for TopHalf and TopGone. Conditions: the listed variables hold what their initialisers lay. -/
import Derived.Test.YtpcaenpbejcagaaGreatDoorCards
import Derived.Test.YtpcaenpbejcagaaGreatDoorW00
import Derived.SevenTiedAt
set_option linter.all false
set_option maxRecDepth 100000
set_option maxHeartbeats 4000000
namespace Go.Proofs.YtpcaenpbejcagaaGreatDoor
section
open Go
theorem q3:(Tryz.prog.funcs.toList.any Func.goes)=false:=by kernel_rfl
theorem rl{a:Program}(h:a.funcs.toList.any Func.goes=false)(c:String):false=a.goesAt .entering c:=by(have d:∀b,a.goes b=false:=fun b=>by(have e:a.funcs.any Func.goes=false:=by rw[<-Array.any_toList];exact h);unfold Program.goes;rw[e,Bool.and_false,Bool.or_false,List.any_eq_false];intro f _;cases g:a.funcs[f]? with|none=>simp|some i=>have:=List.any_eq_false.1 h i (Array.mem_toList_iff.2 (Array.mem_of_getElem? g));simpa using this);unfold Program.goesAt Program.goesFrom;cases a.funcNamed c with|none=>rfl|some b=>simp[d b]
theorem t8:false=Rows.topHalfRow.goesBy Tryz.pinned.checked.prog:=rl q3 _
theorem t9:false=Rows.topGoneRow.goesBy Tryz.pinned.checked.prog:=rl q3 _
end
end Go.Proofs.YtpcaenpbejcagaaGreatDoor
