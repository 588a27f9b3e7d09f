/-
  selionlaw01.shown returns true; what lay in memory stays.
-/
import Derived.Test.YtllippnkijkjlaaDoorAddrK
namespace Go.Proofs.YtllippnkijkjlaaDoor
open Go.RowKit Go.Lib

set_option maxRecDepth 100000 in
set_option maxHeartbeats 1000000 in
theorem shown_any (w : World) (aA aS aR : Addr) (hV : AV w aA aS aR) :
    Calls Tryd.prog 11 #[] w fun e w' => e = .returned (.bool true) ∧ Below w.heap.size w w' := by
  have HB := Lib.hid (Below.refl w.heap.size w)
  have hj : okJ 2 3 4 := ⟨by omega, by omega, by omega, by omega, by omega, by omega⟩
  go_enter Tryd.func11, Tryd.ntmps11
  go_wp2_with (first
    | (go_at_call 12; ((with_reducible refine (split_yes 8580 _ aA aS aR hV (by omega) (by omega)).mono ?_)); rintro e w' ⟨rfl, hb⟩; replace hV := hV.below hb; replace HB := Lib.hid (bstep HB.out hb); clear hb)
    | (go_at_call 14; ((with_reducible refine (join_ok 2 3 4 _ aA aS aR hV hj).mono ?_)); rintro e w' ⟨rfl, hb⟩; replace hV := hV.below hb; replace HB := Lib.hid (bstep HB.out hb); clear hb)
    | (go_at_call 20; ((with_reducible refine (class2 129 _ aA aS aR hV (by omega) (by omega)).mono ?_)); rintro e w' ⟨rfl, hb⟩; replace hV := hV.below hb; replace HB := Lib.hid (bstep HB.out hb); clear hb)
    | (go_at_call 24; ((with_reducible refine (ref_noM 4 _ aA aS aR hV (by omega) (by omega) (by omega)).mono ?_)); rintro e w' ⟨rfl, hb⟩; replace hV := hV.below hb; replace HB := Lib.hid (bstep HB.out hb); clear hb)
    | (go_at_call 18; ((with_reducible refine (round_no 0 _ aA aS aR hV (by omega)).mono ?_)); rintro e w' ⟨rfl, hb⟩; replace hV := hV.below hb; replace HB := Lib.hid (bstep HB.out hb); clear hb))
  go_ret
  exact ⟨rfl, HB.out⟩
end Go.Proofs.YtllippnkijkjlaaDoor
