/- Lemmas for TopHalf and TopGone. Conditions: the listed variables hold what their initialisers lay. -/
import Derived.Test.YtpcaenpbejcagaaGreatDoorW30
set_option linter.all false
set_option maxRecDepth 100000
set_option maxHeartbeats 4000000
namespace Go.Proofs.YtpcaenpbejcagaaGreatDoor
section
open Go
theorem Ac(a:Os):(M5 a).layIfaces Tryz.prog Na (M4 a)=true:=by kernel_rfl
theorem FR(a:Os)(d:Array Value):laidMet Tryz.prog Na ((M4 a).forCall (fun _ _=>0) ⟨#[],d,[]⟩).memory:=by have b:(Na.filter fun x=>(Na.map (·.1)).contains x.1)=Na:=List.filter_eq_self.2 fun x c=>List.contains_iff_mem.2 (List.mem_map.2 ⟨x,c,rfl⟩);(have e:(Na.filter fun x=>!(Na.map (·.1)).contains x.1)=[]:=List.filter_eq_nil_iff.2 fun x c=>by rw[List.contains_iff_mem.2 (List.mem_map.2 ⟨x,c,rfl⟩)];simp);have h:laidMet Tryz.prog Na (M4 a):=laidMet_layVars (w0:=M5 a) (Na.map (·.1)) [] (by rw[b];rfl) (by rw[b];exact FT a) (by rw[b];exact Ac a) (by rw[e];exact LaidIn.none);exact h.of_heap (by simp[World.memory,World.forCall,Input.heap])
end
end Go.Proofs.YtpcaenpbejcagaaGreatDoor
