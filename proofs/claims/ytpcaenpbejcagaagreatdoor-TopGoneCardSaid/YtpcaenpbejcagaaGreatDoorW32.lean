/- Lemmas for TopHalf and TopGone. Conditions: the listed variables hold what their initialisers lay. -/
import Derived.Test.YtpcaenpbejcagaaGreatDoorW31
set_option linter.all false
set_option maxRecDepth 100000
set_option maxHeartbeats 4000000
namespace Go.Proofs.YtpcaenpbejcagaaGreatDoor
section
open Go
theorem Ae(a:Os)(b:Array Value):Nb.all (handleAtB Tryz.prog ((M4 a).forCall (fun _ _=>0) ⟨#[],b,[]⟩).memory)=true:=by kernel_rfl
theorem CT(a:Os)(b:Array Value):laidMetH Tryz.prog Rows.topHalfRow.laid ((M4 a).forCall (fun _ _=>0) ⟨#[],b,[]⟩).memory:=laidMetH_of_parts (by rw[IP];exact FR a b) (by rw[IS];exact Ae a b)
end
end Go.Proofs.YtpcaenpbejcagaaGreatDoor
