/- Lemmas for TopHalf and TopGone. Conditions: the listed variables hold what their initialisers lay. -/
import Derived.Test.YtpcaenpbejcagaaGreatDoorW27
import Derived.Test.YtpcaenpbejcagaaGreatDoorW28
set_option linter.all false
set_option maxRecDepth 100000
set_option maxHeartbeats 4000000
namespace Go.Proofs.YtpcaenpbejcagaaGreatDoor
section
open Go
theorem L1(a:Os)(b:Tape):(Nc.filter fun x=>x.2.handleName?.isSome).all (handleAtB Tryz.prog (varsWorld Tryz.prog 4000 (varsId Tryz.prog) a b).memory)=true:=by kernel_rfl
theorem Ms:Tryz.prog.laidByTextLater Nc Ng true:=Program.laidByTextLater_by_run_h 4000 8 MO MN MM ML MK MJ MI MH MG L1
theorem yO:∀a∈Rows.topHalfRow.laid.zip Rows.topHalfCard.laidKinds,a.2=.pinned->Tryz.pinned.checked.prog.pinnedFits a.1.1=true/\Pinned.datum a.1.1=some a.1.2:=fun a b e=>by(have hr:(Nc.zip Ng).all (fun a=>a.2 !=.pinned)=true:=by kernel_rfl);have c:a∈(("unicode/utf8.first",Rows.laid_unicode_utf8_first),LaidKind.pinned)::Nc.zip Ng:=b;rcases List.mem_cons.1 c with rfl|d;(·exact⟨L6,by kernel_rfl⟩);·have h:=List.all_eq_true.1 hr a d;rw[e]at h;cases h
theorem nD:Rows.topHalfRow.laidByTextAt .later Tryz.pinned Rows.topHalfCard.laidKinds true:=OpenClaim.laidByTextAt_pinned rfl rfl Ms rfl rfl rfl rfl yO IU
theorem nF:Rows.topGoneRow.laidByTextAt .later Tryz.pinned Rows.topGoneCard.laidKinds true:=OpenClaim.laidByTextAt_pinned rfl rfl Ms rfl rfl rfl rfl yO IU
end
end Go.Proofs.YtpcaenpbejcagaaGreatDoor
