/- Lemmas for TopHalf and TopGone. Conditions: the listed variables hold what their initialisers lay. -/
import Derived.Lay
import Derived.Test.YtpcaenpbejcagaaGreatDoorW25
set_option linter.all false
set_option maxRecDepth 100000
set_option maxHeartbeats 4000000
namespace Go.Proofs.YtpcaenpbejcagaaGreatDoor
section
open Go
noncomputable def M5(a:Os):World:={World.holding Tryz.prog a ⟨#[],#[],[]⟩with heap:=⟨(World.holding Tryz.prog a ⟨#[],#[],[]⟩).heap.toList.modify 1 (Lay.setRow [.iface 304 (.agg #[typeHandle Tryz.prog 64])])⟩}
noncomputable def M4(a:Os):World:=(M5 a).layVars Tryz.prog Na
theorem IE(a:Os):(M4 a).os=a:=World.layVars_os _ _ _
theorem FT(a:Os):(M5 a).layFits Tryz.prog Na []=true:=by kernel_rfl
end
end Go.Proofs.YtpcaenpbejcagaaGreatDoor
