/-
  The statements of chapter 1 that speak of the program alone, walked: each returns true for every number, and what lay in memory stays.
-/
import Derived.Test.YtllippnkijkjlaaDoorEq
namespace Go.Proofs.YtllippnkijkjlaaDoor
open Go.RowKit Go.Lib

set_option maxRecDepth 100000 in
set_option maxHeartbeats 1000000 in
theorem granY1 (a r : Int) (w : World) (aA aS aR : Addr) (hV : AV w aA aS aR) (h : 0 ≤ a) (h' : a < 131072) (hm : a % 8 = 0) (k : r < 1) :
    Calls Tryd.prog 6 #[.int .i64 a, .int .i64 r] w fun e w' => e = .returned (.bool true) ∧ Below w.heap.size w w' := by
  have ea : ((a / 8 + 1 - 1) * 8 != a) = false := by first | (simp; done) | (simp; omega)
  have eb : decide (a / 8 + 1 < 1) = false := by first | (simp; done) | (simp; omega)
  have HB := Lib.hid (Below.refl w.heap.size w)
  go_enter Tryd.func6, Tryd.ntmps6
  go_wp2_with (first
    | (go_at_call 11; ((with_reducible refine (shown_any _ aA aS aR hV).mono ?_)); rintro e w' ⟨rfl, hb⟩; replace hV := hV.below hb; replace HB := Lib.hid (bstep HB.out hb); clear hb)
    | (go_at_call 24; ((with_reducible refine (ref_yes _ _ aA aS aR hV (by omega) (by omega) (by omega)).mono ?_)); rintro e w' ⟨rfl, hb⟩; replace hV := hV.below hb; replace HB := Lib.hid (bstep HB.out hb); clear hb)
    | (go_at_call 25; ((with_reducible refine (addr_yes _ _ aA aS aR hV (by omega) (by omega)).mono ?_)); rintro e w' ⟨rfl, hb⟩; replace hV := hV.below hb; replace HB := Lib.hid (bstep HB.out hb); clear hb)
    | (go_at_call 25; ((with_reducible refine (addr_no1 _ _ aA aS aR hV (by omega)).mono ?_)); rintro e w' ⟨rfl, hb⟩; replace hV := hV.below hb; replace HB := Lib.hid (bstep HB.out hb); clear hb))
  go_ret
  exact ⟨rfl, HB.out⟩

set_option maxRecDepth 100000 in
set_option maxHeartbeats 1000000 in
theorem granY2 (a r : Int) (w : World) (aA aS aR : Addr) (hV : AV w aA aS aR) (h : 0 ≤ a) (h' : a < 131072) (hm : a % 8 = 0) (k : 1 ≤ r) (k' : 16384 < r) :
    Calls Tryd.prog 6 #[.int .i64 a, .int .i64 r] w fun e w' => e = .returned (.bool true) ∧ Below w.heap.size w w' := by
  have ea : ((a / 8 + 1 - 1) * 8 != a) = false := by first | (simp; done) | (simp; omega)
  have eb : decide (a / 8 + 1 < 1) = false := by first | (simp; done) | (simp; omega)
  have HB := Lib.hid (Below.refl w.heap.size w)
  go_enter Tryd.func6, Tryd.ntmps6
  go_wp2_with (first
    | (go_at_call 11; ((with_reducible refine (shown_any _ aA aS aR hV).mono ?_)); rintro e w' ⟨rfl, hb⟩; replace hV := hV.below hb; replace HB := Lib.hid (bstep HB.out hb); clear hb)
    | (go_at_call 24; ((with_reducible refine (ref_yes _ _ aA aS aR hV (by omega) (by omega) (by omega)).mono ?_)); rintro e w' ⟨rfl, hb⟩; replace hV := hV.below hb; replace HB := Lib.hid (bstep HB.out hb); clear hb)
    | (go_at_call 25; ((with_reducible refine (addr_yes _ _ aA aS aR hV (by omega) (by omega)).mono ?_)); rintro e w' ⟨rfl, hb⟩; replace hV := hV.below hb; replace HB := Lib.hid (bstep HB.out hb); clear hb)
    | (go_at_call 25; ((with_reducible refine (addr_no2 _ _ aA aS aR hV (by omega) (by omega)).mono ?_)); rintro e w' ⟨rfl, hb⟩; replace hV := hV.below hb; replace HB := Lib.hid (bstep HB.out hb); clear hb))
  go_ret
  exact ⟨rfl, HB.out⟩

set_option maxRecDepth 100000 in
set_option maxHeartbeats 1000000 in
theorem granY3 (a r : Int) (w : World) (aA aS aR : Addr) (hV : AV w aA aS aR) (h : 0 ≤ a) (h' : a < 131072) (hm : a % 8 = 0) (k : 1 ≤ r) (k' : r ≤ 16384) :
    Calls Tryd.prog 6 #[.int .i64 a, .int .i64 r] w fun e w' => e = .returned (.bool true) ∧ Below w.heap.size w w' := by
  have ea : ((a / 8 + 1 - 1) * 8 != a) = false := by first | (simp; done) | (simp; omega)
  have eb : decide (a / 8 + 1 < 1) = false := by first | (simp; done) | (simp; omega)
  have ec : ((r - 1) * 8 / 8 + 1 == r) = true := by first | (simp; done) | (simp; omega)
  have ed : ((r - 1) * 8 % 8 == 0) = true := by first | (simp; done) | (simp; omega)
  have ee : (((r - 1) * 8).tmod 8 == 0) = true := by rw [Int.tmod_eq_emod_of_nonneg (by omega)]; simp
  have HB := Lib.hid (Below.refl w.heap.size w)
  go_enter Tryd.func6, Tryd.ntmps6
  go_wp2_with (first
    | (go_at_call 11; ((with_reducible refine (shown_any _ aA aS aR hV).mono ?_)); rintro e w' ⟨rfl, hb⟩; replace hV := hV.below hb; replace HB := Lib.hid (bstep HB.out hb); clear hb)
    | (go_at_call 24; ((with_reducible refine (ref_yes _ _ aA aS aR hV (by omega) (by omega) (by omega)).mono ?_)); rintro e w' ⟨rfl, hb⟩; replace hV := hV.below hb; replace HB := Lib.hid (bstep HB.out hb); clear hb)
    | (go_at_call 25; ((with_reducible refine (addr_yes _ _ aA aS aR hV (by omega) (by omega)).mono ?_)); rintro e w' ⟨rfl, hb⟩; replace hV := hV.below hb; replace HB := Lib.hid (bstep HB.out hb); clear hb))
  go_ret
  exact ⟨rfl, HB.out⟩

set_option maxRecDepth 100000 in
set_option maxHeartbeats 1000000 in
theorem granR1 (a r : Int) (w : World) (aA aS aR : Addr) (hV : AV w aA aS aR) (h : a < 0 ∨ 131072 ≤ a) (k : r < 1) :
    Calls Tryd.prog 6 #[.int .i64 a, .int .i64 r] w fun e w' => e = .returned (.bool true) ∧ Below w.heap.size w w' := by
  have H := Lib.hid h
  clear h
  have HB := Lib.hid (Below.refl w.heap.size w)
  go_enter Tryd.func6, Tryd.ntmps6
  go_wp2_with (first
    | (go_at_call 11; ((with_reducible refine (shown_any _ aA aS aR hV).mono ?_)); rintro e w' ⟨rfl, hb⟩; replace hV := hV.below hb; replace HB := Lib.hid (bstep HB.out hb); clear hb)
    | (go_at_call 24; ((with_reducible refine (ref_noR a _ aA aS aR hV H.out).mono ?_)); rintro e w' ⟨rfl, hb⟩; replace hV := hV.below hb; replace HB := Lib.hid (bstep HB.out hb); clear hb)
    | (go_at_call 24; ((with_reducible refine (ref_yes _ _ aA aS aR hV (by omega) (by omega) (by omega)).mono ?_)); rintro e w' ⟨rfl, hb⟩; replace hV := hV.below hb; replace HB := Lib.hid (bstep HB.out hb); clear hb)
    | (go_at_call 25; ((with_reducible refine (addr_no1 _ _ aA aS aR hV (by omega)).mono ?_)); rintro e w' ⟨rfl, hb⟩; replace hV := hV.below hb; replace HB := Lib.hid (bstep HB.out hb); clear hb))
  go_ret
  exact ⟨rfl, HB.out⟩

set_option maxRecDepth 100000 in
set_option maxHeartbeats 1000000 in
theorem granR2 (a r : Int) (w : World) (aA aS aR : Addr) (hV : AV w aA aS aR) (h : a < 0 ∨ 131072 ≤ a) (k : 1 ≤ r) (k' : 16384 < r) :
    Calls Tryd.prog 6 #[.int .i64 a, .int .i64 r] w fun e w' => e = .returned (.bool true) ∧ Below w.heap.size w w' := by
  have H := Lib.hid h
  clear h
  have HB := Lib.hid (Below.refl w.heap.size w)
  go_enter Tryd.func6, Tryd.ntmps6
  go_wp2_with (first
    | (go_at_call 11; ((with_reducible refine (shown_any _ aA aS aR hV).mono ?_)); rintro e w' ⟨rfl, hb⟩; replace hV := hV.below hb; replace HB := Lib.hid (bstep HB.out hb); clear hb)
    | (go_at_call 24; ((with_reducible refine (ref_noR a _ aA aS aR hV H.out).mono ?_)); rintro e w' ⟨rfl, hb⟩; replace hV := hV.below hb; replace HB := Lib.hid (bstep HB.out hb); clear hb)
    | (go_at_call 24; ((with_reducible refine (ref_yes _ _ aA aS aR hV (by omega) (by omega) (by omega)).mono ?_)); rintro e w' ⟨rfl, hb⟩; replace hV := hV.below hb; replace HB := Lib.hid (bstep HB.out hb); clear hb)
    | (go_at_call 25; ((with_reducible refine (addr_no1 _ _ aA aS aR hV (by omega)).mono ?_)); rintro e w' ⟨rfl, hb⟩; replace hV := hV.below hb; replace HB := Lib.hid (bstep HB.out hb); clear hb)
    | (go_at_call 25; ((with_reducible refine (addr_no2 _ _ aA aS aR hV (by omega) (by omega)).mono ?_)); rintro e w' ⟨rfl, hb⟩; replace hV := hV.below hb; replace HB := Lib.hid (bstep HB.out hb); clear hb))
  go_ret
  exact ⟨rfl, HB.out⟩

set_option maxRecDepth 100000 in
set_option maxHeartbeats 1000000 in
theorem granR3 (a r : Int) (w : World) (aA aS aR : Addr) (hV : AV w aA aS aR) (h : a < 0 ∨ 131072 ≤ a) (k : 1 ≤ r) (k' : r ≤ 16384) :
    Calls Tryd.prog 6 #[.int .i64 a, .int .i64 r] w fun e w' => e = .returned (.bool true) ∧ Below w.heap.size w w' := by
  have ec : ((r - 1) * 8 / 8 + 1 == r) = true := by first | (simp; done) | (simp; omega)
  have ed : ((r - 1) * 8 % 8 == 0) = true := by first | (simp; done) | (simp; omega)
  have ee : (((r - 1) * 8).tmod 8 == 0) = true := by rw [Int.tmod_eq_emod_of_nonneg (by omega)]; simp
  have H := Lib.hid h
  clear h
  have HB := Lib.hid (Below.refl w.heap.size w)
  go_enter Tryd.func6, Tryd.ntmps6
  go_wp2_with (first
    | (go_at_call 11; ((with_reducible refine (shown_any _ aA aS aR hV).mono ?_)); rintro e w' ⟨rfl, hb⟩; replace hV := hV.below hb; replace HB := Lib.hid (bstep HB.out hb); clear hb)
    | (go_at_call 24; ((with_reducible refine (ref_noR a _ aA aS aR hV H.out).mono ?_)); rintro e w' ⟨rfl, hb⟩; replace hV := hV.below hb; replace HB := Lib.hid (bstep HB.out hb); clear hb)
    | (go_at_call 24; ((with_reducible refine (ref_yes _ _ aA aS aR hV (by omega) (by omega) (by omega)).mono ?_)); rintro e w' ⟨rfl, hb⟩; replace hV := hV.below hb; replace HB := Lib.hid (bstep HB.out hb); clear hb)
    | (go_at_call 25; ((with_reducible refine (addr_no1 _ _ aA aS aR hV (by omega)).mono ?_)); rintro e w' ⟨rfl, hb⟩; replace hV := hV.below hb; replace HB := Lib.hid (bstep HB.out hb); clear hb)
    | (go_at_call 25; ((with_reducible refine (addr_yes _ _ aA aS aR hV (by omega) (by omega)).mono ?_)); rintro e w' ⟨rfl, hb⟩; replace hV := hV.below hb; replace HB := Lib.hid (bstep HB.out hb); clear hb))
  go_ret
  exact ⟨rfl, HB.out⟩

set_option maxRecDepth 100000 in
set_option maxHeartbeats 1000000 in
theorem granM1 (a r : Int) (w : World) (aA aS aR : Addr) (hV : AV w aA aS aR) (h : 0 ≤ a) (h' : a < 131072) (hm : a % 8 ≠ 0) (k : r < 1) :
    Calls Tryd.prog 6 #[.int .i64 a, .int .i64 r] w fun e w' => e = .returned (.bool true) ∧ Below w.heap.size w w' := by
  have HM := Lib.hid hm
  clear hm
  have HB := Lib.hid (Below.refl w.heap.size w)
  go_enter Tryd.func6, Tryd.ntmps6
  go_wp2_with (first
    | (go_at_call 11; ((with_reducible refine (shown_any _ aA aS aR hV).mono ?_)); rintro e w' ⟨rfl, hb⟩; replace hV := hV.below hb; replace HB := Lib.hid (bstep HB.out hb); clear hb)
    | (go_at_call 24; ((with_reducible refine (ref_noM a _ aA aS aR hV h h' HM.out).mono ?_)); rintro e w' ⟨rfl, hb⟩; replace hV := hV.below hb; replace HB := Lib.hid (bstep HB.out hb); clear hb)
    | (go_at_call 24; ((with_reducible refine (ref_yes _ _ aA aS aR hV (by omega) (by omega) (by omega)).mono ?_)); rintro e w' ⟨rfl, hb⟩; replace hV := hV.below hb; replace HB := Lib.hid (bstep HB.out hb); clear hb)
    | (go_at_call 25; ((with_reducible refine (addr_no1 _ _ aA aS aR hV (by omega)).mono ?_)); rintro e w' ⟨rfl, hb⟩; replace hV := hV.below hb; replace HB := Lib.hid (bstep HB.out hb); clear hb))
  go_ret
  exact ⟨rfl, HB.out⟩

set_option maxRecDepth 100000 in
set_option maxHeartbeats 1000000 in
theorem granM2 (a r : Int) (w : World) (aA aS aR : Addr) (hV : AV w aA aS aR) (h : 0 ≤ a) (h' : a < 131072) (hm : a % 8 ≠ 0) (k : 1 ≤ r) (k' : 16384 < r) :
    Calls Tryd.prog 6 #[.int .i64 a, .int .i64 r] w fun e w' => e = .returned (.bool true) ∧ Below w.heap.size w w' := by
  have HM := Lib.hid hm
  clear hm
  have HB := Lib.hid (Below.refl w.heap.size w)
  go_enter Tryd.func6, Tryd.ntmps6
  go_wp2_with (first
    | (go_at_call 11; ((with_reducible refine (shown_any _ aA aS aR hV).mono ?_)); rintro e w' ⟨rfl, hb⟩; replace hV := hV.below hb; replace HB := Lib.hid (bstep HB.out hb); clear hb)
    | (go_at_call 24; ((with_reducible refine (ref_noM a _ aA aS aR hV h h' HM.out).mono ?_)); rintro e w' ⟨rfl, hb⟩; replace hV := hV.below hb; replace HB := Lib.hid (bstep HB.out hb); clear hb)
    | (go_at_call 24; ((with_reducible refine (ref_yes _ _ aA aS aR hV (by omega) (by omega) (by omega)).mono ?_)); rintro e w' ⟨rfl, hb⟩; replace hV := hV.below hb; replace HB := Lib.hid (bstep HB.out hb); clear hb)
    | (go_at_call 25; ((with_reducible refine (addr_no1 _ _ aA aS aR hV (by omega)).mono ?_)); rintro e w' ⟨rfl, hb⟩; replace hV := hV.below hb; replace HB := Lib.hid (bstep HB.out hb); clear hb)
    | (go_at_call 25; ((with_reducible refine (addr_no2 _ _ aA aS aR hV (by omega) (by omega)).mono ?_)); rintro e w' ⟨rfl, hb⟩; replace hV := hV.below hb; replace HB := Lib.hid (bstep HB.out hb); clear hb))
  go_ret
  exact ⟨rfl, HB.out⟩

set_option maxRecDepth 100000 in
set_option maxHeartbeats 1000000 in
theorem granM3 (a r : Int) (w : World) (aA aS aR : Addr) (hV : AV w aA aS aR) (h : 0 ≤ a) (h' : a < 131072) (hm : a % 8 ≠ 0) (k : 1 ≤ r) (k' : r ≤ 16384) :
    Calls Tryd.prog 6 #[.int .i64 a, .int .i64 r] w fun e w' => e = .returned (.bool true) ∧ Below w.heap.size w w' := by
  have ec : ((r - 1) * 8 / 8 + 1 == r) = true := by first | (simp; done) | (simp; omega)
  have ed : ((r - 1) * 8 % 8 == 0) = true := by first | (simp; done) | (simp; omega)
  have ee : (((r - 1) * 8).tmod 8 == 0) = true := by rw [Int.tmod_eq_emod_of_nonneg (by omega)]; simp
  have HM := Lib.hid hm
  clear hm
  have HB := Lib.hid (Below.refl w.heap.size w)
  go_enter Tryd.func6, Tryd.ntmps6
  go_wp2_with (first
    | (go_at_call 11; ((with_reducible refine (shown_any _ aA aS aR hV).mono ?_)); rintro e w' ⟨rfl, hb⟩; replace hV := hV.below hb; replace HB := Lib.hid (bstep HB.out hb); clear hb)
    | (go_at_call 24; ((with_reducible refine (ref_noM a _ aA aS aR hV h h' HM.out).mono ?_)); rintro e w' ⟨rfl, hb⟩; replace hV := hV.below hb; replace HB := Lib.hid (bstep HB.out hb); clear hb)
    | (go_at_call 24; ((with_reducible refine (ref_yes _ _ aA aS aR hV (by omega) (by omega) (by omega)).mono ?_)); rintro e w' ⟨rfl, hb⟩; replace hV := hV.below hb; replace HB := Lib.hid (bstep HB.out hb); clear hb)
    | (go_at_call 25; ((with_reducible refine (addr_no1 _ _ aA aS aR hV (by omega)).mono ?_)); rintro e w' ⟨rfl, hb⟩; replace hV := hV.below hb; replace HB := Lib.hid (bstep HB.out hb); clear hb)
    | (go_at_call 25; ((with_reducible refine (addr_yes _ _ aA aS aR hV (by omega) (by omega)).mono ?_)); rintro e w' ⟨rfl, hb⟩; replace hV := hV.below hb; replace HB := Lib.hid (bstep HB.out hb); clear hb))
  go_ret
  exact ⟨rfl, HB.out⟩

theorem lawAddrGranules (a r : Int) (w : World) (aA aS aR : Addr) (hV : AV w aA aS aR) :
    Calls Tryd.prog 6 #[.int .i64 a, .int .i64 r] w fun e w' => e = .returned (.bool true) ∧ Below w.heap.size w w' := by
  by_cases k1 : r < 1
  · by_cases h : 0 ≤ a ∧ a < 131072
    · by_cases hm : a % 8 = 0
      · exact granY1 a r w aA aS aR hV h.1 h.2 hm k1
      · exact granM1 a r w aA aS aR hV h.1 h.2 hm k1
    · exact granR1 a r w aA aS aR hV (by omega) k1
  · by_cases k2 : 16384 < r
    · by_cases h : 0 ≤ a ∧ a < 131072
      · by_cases hm : a % 8 = 0
        · exact granY2 a r w aA aS aR hV h.1 h.2 hm (by omega) k2
        · exact granM2 a r w aA aS aR hV h.1 h.2 hm (by omega) k2
      · exact granR2 a r w aA aS aR hV (by omega) (by omega) k2
    · by_cases h : 0 ≤ a ∧ a < 131072
      · by_cases hm : a % 8 = 0
        · exact granY3 a r w aA aS aR hV h.1 h.2 hm (by omega) (by omega)
        · exact granM3 a r w aA aS aR hV h.1 h.2 hm (by omega) (by omega)
      · exact granR3 a r w aA aS aR hV (by omega) (by omega) (by omega)

end Go.Proofs.YtllippnkijkjlaaDoor
