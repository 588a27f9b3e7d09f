/-
  The statements of chapter 1 that speak of the program alone, walked: each returns true for every number, and what lay in memory stays.
-/
import Derived.Test.YtllippnkijkjlaaDoorEq
namespace Go.Proofs.YtllippnkijkjlaaDoor
open Go.RowKit Go.Lib

theorem okJ_mk {b l t : Int} (h1 : 0 ≤ b) (h2 : b < 32) (h3 : 0 ≤ l) (h4 : l < 32) (h5 : 0 ≤ t) (h6 : t < 128) : okJ b l t := ⟨h1, h2, h3, h4, h5, h6⟩

set_option maxRecDepth 100000 in
set_option maxHeartbeats 1000000 in
theorem back1 (a b l t : Int) (w : World) (aA aS aR : Addr) (hV : AV w aA aS aR) (h : 0 ≤ a) (h' : a < 131072) (j1 : 0 ≤ b) (j2 : b < 32) (j3 : 0 ≤ l) (j4 : l < 32) (j5 : 0 ≤ t) (j6 : t < 128) :
    Calls Tryd.prog 4 #[.int .i64 a, .int .i64 b, .int .i64 l, .int .i64 t] w fun e w' => e = .returned (.bool true) ∧ Below w.heap.size w w' := by
  have ea : (4096 * (a / 4096) + 128 * (a % 4096 / 128) + a % 128 != a) = false := by simp; omega
  have e1 : ((4096 * b + 128 * l + t) / 4096 == b) = true := by simp; omega
  have e2 : ((4096 * b + 128 * l + t) % 4096 / 128 == l) = true := by simp; omega
  have e3 : ((4096 * b + 128 * l + t) % 128 == t) = true := by simp; omega
  have HB := Lib.hid (Below.refl w.heap.size w)
  go_enter Tryd.func4, Tryd.ntmps4
  go_wp2_with (first
    | (go_at_call 11; ((with_reducible refine (shown_any _ aA aS aR hV).mono ?_)); rintro e w' ⟨rfl, hb⟩; replace hV := hV.below hb; replace HB := Lib.hid (bstep HB.out hb); clear hb)
    | (go_at_call 12; ((with_reducible refine (split_yes _ _ aA aS aR hV (by omega) (by omega)).mono ?_)); rintro e w' ⟨rfl, hb⟩; replace hV := hV.below hb; replace HB := Lib.hid (bstep HB.out hb); clear hb)
    | (go_at_call 14; ((with_reducible refine (join_ok _ _ _ _ aA aS aR hV (okJ_mk (by omega) (by omega) (by omega) (by omega) (by omega) (by omega))).mono ?_)); rintro e w' ⟨rfl, hb⟩; replace hV := hV.below hb; replace HB := Lib.hid (bstep HB.out hb); clear hb)
    | (go_at_call 16; ((with_reducible refine (right_yes _ _ (by omega) (by omega)).mono ?_)); rintro e w' ⟨rfl, rfl⟩))
  go_ret
  exact ⟨rfl, HB.out⟩

set_option maxRecDepth 100000 in
set_option maxHeartbeats 1000000 in
theorem back2 (a b l t : Int) (w : World) (aA aS aR : Addr) (hV : AV w aA aS aR) (h : 0 ≤ a) (h' : a < 131072) (hj : ¬ okJ b l t) :
    Calls Tryd.prog 4 #[.int .i64 a, .int .i64 b, .int .i64 l, .int .i64 t] w fun e w' => e = .returned (.bool true) ∧ Below w.heap.size w w' := by
  have ea : (4096 * (a / 4096) + 128 * (a % 4096 / 128) + a % 128 != a) = false := by simp; omega
  have HJ := Lib.hid hj
  clear hj
  have HB := Lib.hid (Below.refl w.heap.size w)
  go_enter Tryd.func4, Tryd.ntmps4
  go_wp2_with (first
    | (go_at_call 11; ((with_reducible refine (shown_any _ aA aS aR hV).mono ?_)); rintro e w' ⟨rfl, hb⟩; replace hV := hV.below hb; replace HB := Lib.hid (bstep HB.out hb); clear hb)
    | (go_at_call 12; ((with_reducible refine (split_yes _ _ aA aS aR hV (by omega) (by omega)).mono ?_)); rintro e w' ⟨rfl, hb⟩; replace hV := hV.below hb; replace HB := Lib.hid (bstep HB.out hb); clear hb)
    | (go_at_call 14; ((with_reducible refine (join_bad b l t _ aA aS aR hV HJ.out).mono ?_)); rintro e w' ⟨rfl, hb⟩; replace hV := hV.below hb; replace HB := Lib.hid (bstep HB.out hb); clear hb)
    | (go_at_call 14; ((with_reducible refine (join_ok _ _ _ _ aA aS aR hV (okJ_mk (by omega) (by omega) (by omega) (by omega) (by omega) (by omega))).mono ?_)); rintro e w' ⟨rfl, hb⟩; replace hV := hV.below hb; replace HB := Lib.hid (bstep HB.out hb); clear hb)
    | (go_at_call 16; ((with_reducible refine (right_yes _ _ (by omega) (by omega)).mono ?_)); rintro e w' ⟨rfl, rfl⟩))
  go_ret
  exact ⟨rfl, HB.out⟩

set_option maxRecDepth 100000 in
set_option maxHeartbeats 1000000 in
theorem back3 (a b l t : Int) (w : World) (aA aS aR : Addr) (hV : AV w aA aS aR) (h : a < 0 ∨ 131072 ≤ a) (j1 : 0 ≤ b) (j2 : b < 32) (j3 : 0 ≤ l) (j4 : l < 32) (j5 : 0 ≤ t) (j6 : t < 128) :
    Calls Tryd.prog 4 #[.int .i64 a, .int .i64 b, .int .i64 l, .int .i64 t] w fun e w' => e = .returned (.bool true) ∧ Below w.heap.size w w' := by
  have e1 : ((4096 * b + 128 * l + t) / 4096 == b) = true := by simp; omega
  have e2 : ((4096 * b + 128 * l + t) % 4096 / 128 == l) = true := by simp; omega
  have e3 : ((4096 * b + 128 * l + t) % 128 == t) = true := by simp; omega
  have H := Lib.hid h
  clear h
  have HB := Lib.hid (Below.refl w.heap.size w)
  go_enter Tryd.func4, Tryd.ntmps4
  go_wp2_with (first
    | (go_at_call 11; ((with_reducible refine (shown_any _ aA aS aR hV).mono ?_)); rintro e w' ⟨rfl, hb⟩; replace hV := hV.below hb; replace HB := Lib.hid (bstep HB.out hb); clear hb)
    | (go_at_call 12; ((with_reducible refine (split_no a _ aA aS aR hV H.out).mono ?_)); rintro e w' ⟨rfl, hb⟩; replace hV := hV.below hb; replace HB := Lib.hid (bstep HB.out hb); clear hb)
    | (go_at_call 12; ((with_reducible refine (split_yes _ _ aA aS aR hV (by omega) (by omega)).mono ?_)); rintro e w' ⟨rfl, hb⟩; replace hV := hV.below hb; replace HB := Lib.hid (bstep HB.out hb); clear hb)
    | (go_at_call 14; ((with_reducible refine (join_ok _ _ _ _ aA aS aR hV (okJ_mk (by omega) (by omega) (by omega) (by omega) (by omega) (by omega))).mono ?_)); rintro e w' ⟨rfl, hb⟩; replace hV := hV.below hb; replace HB := Lib.hid (bstep HB.out hb); clear hb)
    | (go_at_call 16; ((with_reducible refine (right_no a _ H.out).mono ?_)); rintro e w' ⟨rfl, rfl⟩))
  go_ret
  exact ⟨rfl, HB.out⟩

set_option maxRecDepth 100000 in
set_option maxHeartbeats 1000000 in
theorem back4 (a b l t : Int) (w : World) (aA aS aR : Addr) (hV : AV w aA aS aR) (h : a < 0 ∨ 131072 ≤ a) (hj : ¬ okJ b l t) :
    Calls Tryd.prog 4 #[.int .i64 a, .int .i64 b, .int .i64 l, .int .i64 t] w fun e w' => e = .returned (.bool true) ∧ Below w.heap.size w w' := by
  have H := Lib.hid h
  clear h
  have HJ := Lib.hid hj
  clear hj
  have HB := Lib.hid (Below.refl w.heap.size w)
  go_enter Tryd.func4, Tryd.ntmps4
  go_wp2_with (first
    | (go_at_call 11; ((with_reducible refine (shown_any _ aA aS aR hV).mono ?_)); rintro e w' ⟨rfl, hb⟩; replace hV := hV.below hb; replace HB := Lib.hid (bstep HB.out hb); clear hb)
    | (go_at_call 12; ((with_reducible refine (split_no a _ aA aS aR hV H.out).mono ?_)); rintro e w' ⟨rfl, hb⟩; replace hV := hV.below hb; replace HB := Lib.hid (bstep HB.out hb); clear hb)
    | (go_at_call 12; ((with_reducible refine (split_yes _ _ aA aS aR hV (by omega) (by omega)).mono ?_)); rintro e w' ⟨rfl, hb⟩; replace hV := hV.below hb; replace HB := Lib.hid (bstep HB.out hb); clear hb)
    | (go_at_call 14; ((with_reducible refine (join_bad b l t _ aA aS aR hV HJ.out).mono ?_)); rintro e w' ⟨rfl, hb⟩; replace hV := hV.below hb; replace HB := Lib.hid (bstep HB.out hb); clear hb)
    | (go_at_call 14; ((with_reducible refine (join_ok _ _ _ _ aA aS aR hV (okJ_mk (by omega) (by omega) (by omega) (by omega) (by omega) (by omega))).mono ?_)); rintro e w' ⟨rfl, hb⟩; replace hV := hV.below hb; replace HB := Lib.hid (bstep HB.out hb); clear hb)
    | (go_at_call 16; ((with_reducible refine (right_no a _ H.out).mono ?_)); rintro e w' ⟨rfl, rfl⟩))
  go_ret
  exact ⟨rfl, HB.out⟩

theorem lawAddrBack (a b l t : Int) (w : World) (aA aS aR : Addr) (hV : AV w aA aS aR) :
    Calls Tryd.prog 4 #[.int .i64 a, .int .i64 b, .int .i64 l, .int .i64 t] w fun e w' => e = .returned (.bool true) ∧ Below w.heap.size w w' := by
  by_cases h : 0 ≤ a ∧ a < 131072
  · by_cases j : okJ b l t
    · obtain ⟨j1, j2, j3, j4, j5, j6⟩ := j
      exact back1 a b l t w aA aS aR hV h.1 h.2 j1 j2 j3 j4 j5 j6
    · exact back2 a b l t w aA aS aR hV h.1 h.2 j
  · by_cases j : okJ b l t
    · obtain ⟨j1, j2, j3, j4, j5, j6⟩ := j
      exact back3 a b l t w aA aS aR hV (by omega) j1 j2 j3 j4 j5 j6
    · exact back4 a b l t w aA aS aR hV (by omega) j

end Go.Proofs.YtllippnkijkjlaaDoor
