/- Lemmas for TopHalf and TopGone. Conditions: the listed variables hold what their initialisers lay. -/
import Derived.Test.YtpcaenpbejcagaaGreatDoorW33
set_option linter.all false
set_option maxRecDepth 100000
set_option maxHeartbeats 4000000
namespace Go.Proofs.YtpcaenpbejcagaaGreatDoor
section
open Go
theorem FQ(a:Os)(b:Array Value):((((M4 a).forCall (fun _ _=>0) ⟨#[],b,[]⟩).heap.toList.drop Tryz.prog.globals.size).take ((begin Tryz.prog (fun _ _=>0) default).world.heap.size-Tryz.prog.globals.size))=(begin Tryz.prog (fun _ _=>0) default).world.heap.toList.drop Tryz.prog.globals.size:=by kernel_rfl
theorem qE(a:Os)(b:Array Value):((M4 a).forCall (fun _ _=>0) ⟨#[],b,[]⟩).Shaped Tryz.prog:=World.shaped_of_ZipB (I6 a b) (FQ a b)
end
end Go.Proofs.YtpcaenpbejcagaaGreatDoor
