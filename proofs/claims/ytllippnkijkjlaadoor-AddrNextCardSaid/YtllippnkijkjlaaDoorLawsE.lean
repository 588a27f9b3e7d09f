/-
  AddrNext of chapter 1, walked: it returns true for every two numbers, and what lay in memory stays.
-/
import Derived.Test.YtllippnkijkjlaaDoorEq
namespace Go.Proofs.YtllippnkijkjlaaDoor
open Go.RowKit Go.Lib

set_option maxRecDepth 100000 in
set_option maxHeartbeats 1000000 in
theorem nextRN (a b : Int) (w : World) (aA aS aR : Addr) (hV : AV w aA aS aR) (h : a < 0 ∨ 131072 ≤ a) (hb2 : b < 0 ∨ 131072 ≤ b) :
    Calls Tryd.prog 9 #[.int .i64 a, .int .i64 b] w fun e w' => e = .returned (.bool true) ∧ Below w.heap.size w w' := by
  have H := Lib.hid h
  clear h
  have HB2 := Lib.hid hb2
  clear hb2
  have HB := Lib.hid (Below.refl w.heap.size w)
  go_enter Tryd.func9, Tryd.ntmps9
  go_wp2_with (first
    | (go_at_call 11; ((with_reducible refine (shown_any _ aA aS aR hV).mono ?_)); rintro e w' ⟨rfl, hb⟩; replace hV := hV.below hb; replace HB := Lib.hid (bstep HB.out hb); clear hb)
    | (go_at_call 24; ((with_reducible refine (ref_noR a _ aA aS aR hV H.out).mono ?_)); rintro e w' ⟨rfl, hb⟩; replace hV := hV.below hb; replace HB := Lib.hid (bstep HB.out hb); clear hb)
    | (go_at_call 26; ((with_reducible refine (span_noA a 1 _ aA aS aR hV (by omega) H.out).mono ?_)); rintro e w' ⟨rfl, hb⟩; replace hV := hV.below hb; replace HB := Lib.hid (bstep HB.out hb); clear hb)
    | (go_at_call 26; ((with_reducible refine (span_noA b 1 _ aA aS aR hV (by omega) HB2.out).mono ?_)); rintro e w' ⟨rfl, hb⟩; replace hV := hV.below hb; replace HB := Lib.hid (bstep HB.out hb); clear hb)
    | (go_at_call 16; ((with_reducible refine (right_no a _ H.out).mono ?_)); rintro e w' ⟨rfl, rfl⟩))
  go_ret
  exact ⟨rfl, HB.out⟩

set_option maxRecDepth 100000 in
set_option maxHeartbeats 1000000 in
theorem nextRG (a b : Int) (w : World) (aA aS aR : Addr) (hV : AV w aA aS aR) (h : a < 0 ∨ 131072 ≤ a) (k : 0 ≤ b) (k' : b < 131072) (_g : b < a) :
    Calls Tryd.prog 9 #[.int .i64 a, .int .i64 b] w fun e w' => e = .returned (.bool true) ∧ Below w.heap.size w w' := by
  have H := Lib.hid h
  clear h
  have HB := Lib.hid (Below.refl w.heap.size w)
  go_enter Tryd.func9, Tryd.ntmps9
  go_wp2_with (first
    | (go_at_call 11; ((with_reducible refine (shown_any _ aA aS aR hV).mono ?_)); rintro e w' ⟨rfl, hb⟩; replace hV := hV.below hb; replace HB := Lib.hid (bstep HB.out hb); clear hb)
    | (go_at_call 24; ((with_reducible refine (ref_noR a _ aA aS aR hV H.out).mono ?_)); rintro e w' ⟨rfl, hb⟩; replace hV := hV.below hb; replace HB := Lib.hid (bstep HB.out hb); clear hb)
    | (go_at_call 26; ((with_reducible refine (span_noA a 1 _ aA aS aR hV (by omega) H.out).mono ?_)); rintro e w' ⟨rfl, hb⟩; replace hV := hV.below hb; replace HB := Lib.hid (bstep HB.out hb); clear hb)
    | (go_at_call 26; ((with_reducible refine (span_yes b 1 _ aA aS aR hV (by omega) (by omega) (by omega) (by omega)).mono ?_)); rintro e w' ⟨rfl, hb⟩; replace hV := hV.below hb; replace HB := Lib.hid (bstep HB.out hb); clear hb)
    | (go_at_call 16; ((with_reducible refine (right_no a _ H.out).mono ?_)); rintro e w' ⟨rfl, rfl⟩))
  go_ret
  exact ⟨rfl, HB.out⟩

set_option maxRecDepth 100000 in
set_option maxHeartbeats 1000000 in
theorem nextRL (a b : Int) (w : World) (aA aS aR : Addr) (hV : AV w aA aS aR) (h : a < 0 ∨ 131072 ≤ a) (k : 0 ≤ b) (k' : b < 131072) (g : a ≤ b) :
    Calls Tryd.prog 9 #[.int .i64 a, .int .i64 b] w fun e w' => e = .returned (.bool true) ∧ Below w.heap.size w w' := by
  have ey : decide (a / 128 ≤ b / 128) = true := by simp; omega
  have H := Lib.hid h
  clear h
  have HB := Lib.hid (Below.refl w.heap.size w)
  go_enter Tryd.func9, Tryd.ntmps9
  go_wp2_with (first
    | (go_at_call 11; ((with_reducible refine (shown_any _ aA aS aR hV).mono ?_)); rintro e w' ⟨rfl, hb⟩; replace hV := hV.below hb; replace HB := Lib.hid (bstep HB.out hb); clear hb)
    | (go_at_call 24; ((with_reducible refine (ref_noR a _ aA aS aR hV H.out).mono ?_)); rintro e w' ⟨rfl, hb⟩; replace hV := hV.below hb; replace HB := Lib.hid (bstep HB.out hb); clear hb)
    | (go_at_call 26; ((with_reducible refine (span_noA a 1 _ aA aS aR hV (by omega) H.out).mono ?_)); rintro e w' ⟨rfl, hb⟩; replace hV := hV.below hb; replace HB := Lib.hid (bstep HB.out hb); clear hb)
    | (go_at_call 26; ((with_reducible refine (span_yes b 1 _ aA aS aR hV (by omega) (by omega) (by omega) (by omega)).mono ?_)); rintro e w' ⟨rfl, hb⟩; replace hV := hV.below hb; replace HB := Lib.hid (bstep HB.out hb); clear hb)
    | (go_at_call 16; ((with_reducible refine (right_no a _ H.out).mono ?_)); rintro e w' ⟨rfl, rfl⟩))
  go_ret
  exact ⟨rfl, HB.out⟩

set_option maxRecDepth 100000 in
set_option maxHeartbeats 1000000 in
theorem nextMN (a b : Int) (w : World) (aA aS aR : Addr) (hV : AV w aA aS aR) (h : 0 ≤ a) (h' : a < 131072) (hm : a % 8 ≠ 0) (hb2 : b < 0 ∨ 131072 ≤ b) :
    Calls Tryd.prog 9 #[.int .i64 a, .int .i64 b] w fun e w' => e = .returned (.bool true) ∧ Below w.heap.size w w' := by
  have HM := Lib.hid hm
  clear hm
  have HB2 := Lib.hid hb2
  clear hb2
  have HB := Lib.hid (Below.refl w.heap.size w)
  go_enter Tryd.func9, Tryd.ntmps9
  go_wp2_with (first
    | (go_at_call 11; ((with_reducible refine (shown_any _ aA aS aR hV).mono ?_)); rintro e w' ⟨rfl, hb⟩; replace hV := hV.below hb; replace HB := Lib.hid (bstep HB.out hb); clear hb)
    | (go_at_call 24; ((with_reducible refine (ref_noM a _ aA aS aR hV h h' HM.out).mono ?_)); rintro e w' ⟨rfl, hb⟩; replace hV := hV.below hb; replace HB := Lib.hid (bstep HB.out hb); clear hb)
    | (go_at_call 26; ((with_reducible refine (span_yes a 1 _ aA aS aR hV (by omega) (by omega) (by omega) (by omega)).mono ?_)); rintro e w' ⟨rfl, hb⟩; replace hV := hV.below hb; replace HB := Lib.hid (bstep HB.out hb); clear hb)
    | (go_at_call 26; ((with_reducible refine (span_noA b 1 _ aA aS aR hV (by omega) HB2.out).mono ?_)); rintro e w' ⟨rfl, hb⟩; replace hV := hV.below hb; replace HB := Lib.hid (bstep HB.out hb); clear hb)
    | (go_at_call 16; ((with_reducible refine (right_yes _ _ (by omega) (by omega)).mono ?_)); rintro e w' ⟨rfl, rfl⟩))
  go_ret
  exact ⟨rfl, HB.out⟩

set_option maxRecDepth 100000 in
set_option maxHeartbeats 1000000 in
theorem nextMG (a b : Int) (w : World) (aA aS aR : Addr) (hV : AV w aA aS aR) (h : 0 ≤ a) (h' : a < 131072) (hm : a % 8 ≠ 0) (k : 0 ≤ b) (k' : b < 131072) (g : b < a) :
    Calls Tryd.prog 9 #[.int .i64 a, .int .i64 b] w fun e w' => e = .returned (.bool true) ∧ Below w.heap.size w w' := by
  have HM := Lib.hid hm
  clear hm
  have HB := Lib.hid (Below.refl w.heap.size w)
  go_enter Tryd.func9, Tryd.ntmps9
  go_wp2_with (first
    | (go_at_call 11; ((with_reducible refine (shown_any _ aA aS aR hV).mono ?_)); rintro e w' ⟨rfl, hb⟩; replace hV := hV.below hb; replace HB := Lib.hid (bstep HB.out hb); clear hb)
    | (go_at_call 24; ((with_reducible refine (ref_noM a _ aA aS aR hV h h' HM.out).mono ?_)); rintro e w' ⟨rfl, hb⟩; replace hV := hV.below hb; replace HB := Lib.hid (bstep HB.out hb); clear hb)
    | (go_at_call 26; ((with_reducible refine (span_yes a 1 _ aA aS aR hV (by omega) (by omega) (by omega) (by omega)).mono ?_)); rintro e w' ⟨rfl, hb⟩; replace hV := hV.below hb; replace HB := Lib.hid (bstep HB.out hb); clear hb)
    | (go_at_call 26; ((with_reducible refine (span_yes b 1 _ aA aS aR hV (by omega) (by omega) (by omega) (by omega)).mono ?_)); rintro e w' ⟨rfl, hb⟩; replace hV := hV.below hb; replace HB := Lib.hid (bstep HB.out hb); clear hb)
    | (go_at_call 16; ((with_reducible refine (right_yes _ _ (by omega) (by omega)).mono ?_)); rintro e w' ⟨rfl, rfl⟩))
  go_ret
  exact ⟨rfl, HB.out⟩

set_option maxRecDepth 100000 in
set_option maxHeartbeats 1000000 in
theorem nextML (a b : Int) (w : World) (aA aS aR : Addr) (hV : AV w aA aS aR) (h : 0 ≤ a) (h' : a < 131072) (hm : a % 8 ≠ 0) (k : 0 ≤ b) (k' : b < 131072) (g : a ≤ b) :
    Calls Tryd.prog 9 #[.int .i64 a, .int .i64 b] w fun e w' => e = .returned (.bool true) ∧ Below w.heap.size w w' := by
  have ey : decide (a / 128 ≤ b / 128) = true := by simp; omega
  have HM := Lib.hid hm
  clear hm
  have HB := Lib.hid (Below.refl w.heap.size w)
  go_enter Tryd.func9, Tryd.ntmps9
  go_wp2_with (first
    | (go_at_call 11; ((with_reducible refine (shown_any _ aA aS aR hV).mono ?_)); rintro e w' ⟨rfl, hb⟩; replace hV := hV.below hb; replace HB := Lib.hid (bstep HB.out hb); clear hb)
    | (go_at_call 24; ((with_reducible refine (ref_noM a _ aA aS aR hV h h' HM.out).mono ?_)); rintro e w' ⟨rfl, hb⟩; replace hV := hV.below hb; replace HB := Lib.hid (bstep HB.out hb); clear hb)
    | (go_at_call 26; ((with_reducible refine (span_yes a 1 _ aA aS aR hV (by omega) (by omega) (by omega) (by omega)).mono ?_)); rintro e w' ⟨rfl, hb⟩; replace hV := hV.below hb; replace HB := Lib.hid (bstep HB.out hb); clear hb)
    | (go_at_call 26; ((with_reducible refine (span_yes b 1 _ aA aS aR hV (by omega) (by omega) (by omega) (by omega)).mono ?_)); rintro e w' ⟨rfl, hb⟩; replace hV := hV.below hb; replace HB := Lib.hid (bstep HB.out hb); clear hb)
    | (go_at_call 16; ((with_reducible refine (right_yes _ _ (by omega) (by omega)).mono ?_)); rintro e w' ⟨rfl, rfl⟩))
  go_ret
  exact ⟨rfl, HB.out⟩

set_option maxRecDepth 100000 in
set_option maxHeartbeats 1000000 in
theorem nextYN (a b : Int) (w : World) (aA aS aR : Addr) (hV : AV w aA aS aR) (h : 0 ≤ a) (h' : a < 131072) (hm : a % 8 = 0) (hq : a < 131064) (hb2 : b < 0 ∨ 131072 ≤ b) :
    Calls Tryd.prog 9 #[.int .i64 a, .int .i64 b] w fun e w' => e = .returned (.bool true) ∧ Below w.heap.size w w' := by
  have ex : ((a + 8) / 8 + 1 != a / 8 + 1 + 1) = false := by simp; omega
  have HB2 := Lib.hid hb2
  clear hb2
  have HB := Lib.hid (Below.refl w.heap.size w)
  go_enter Tryd.func9, Tryd.ntmps9
  go_wp2_with (first
    | (go_at_call 11; ((with_reducible refine (shown_any _ aA aS aR hV).mono ?_)); rintro e w' ⟨rfl, hb⟩; replace hV := hV.below hb; replace HB := Lib.hid (bstep HB.out hb); clear hb)
    | (go_at_call 24; ((with_reducible refine (ref_yes _ _ aA aS aR hV (by omega) (by omega) (by omega)).mono ?_)); rintro e w' ⟨rfl, hb⟩; replace hV := hV.below hb; replace HB := Lib.hid (bstep HB.out hb); clear hb)
    | (go_at_call 26; ((with_reducible refine (span_yes a 1 _ aA aS aR hV (by omega) (by omega) (by omega) (by omega)).mono ?_)); rintro e w' ⟨rfl, hb⟩; replace hV := hV.below hb; replace HB := Lib.hid (bstep HB.out hb); clear hb)
    | (go_at_call 26; ((with_reducible refine (span_noA b 1 _ aA aS aR hV (by omega) HB2.out).mono ?_)); rintro e w' ⟨rfl, hb⟩; replace hV := hV.below hb; replace HB := Lib.hid (bstep HB.out hb); clear hb)
    | (go_at_call 16; ((with_reducible refine (right_yes _ _ (by omega) (by omega)).mono ?_)); rintro e w' ⟨rfl, rfl⟩))
  go_ret
  exact ⟨rfl, HB.out⟩

set_option maxRecDepth 100000 in
set_option maxHeartbeats 1000000 in
theorem nextYG (a b : Int) (w : World) (aA aS aR : Addr) (hV : AV w aA aS aR) (h : 0 ≤ a) (h' : a < 131072) (hm : a % 8 = 0) (hq : a < 131064) (k : 0 ≤ b) (k' : b < 131072) (g : b < a) :
    Calls Tryd.prog 9 #[.int .i64 a, .int .i64 b] w fun e w' => e = .returned (.bool true) ∧ Below w.heap.size w w' := by
  have ex : ((a + 8) / 8 + 1 != a / 8 + 1 + 1) = false := by simp; omega
  have HB := Lib.hid (Below.refl w.heap.size w)
  go_enter Tryd.func9, Tryd.ntmps9
  go_wp2_with (first
    | (go_at_call 11; ((with_reducible refine (shown_any _ aA aS aR hV).mono ?_)); rintro e w' ⟨rfl, hb⟩; replace hV := hV.below hb; replace HB := Lib.hid (bstep HB.out hb); clear hb)
    | (go_at_call 24; ((with_reducible refine (ref_yes _ _ aA aS aR hV (by omega) (by omega) (by omega)).mono ?_)); rintro e w' ⟨rfl, hb⟩; replace hV := hV.below hb; replace HB := Lib.hid (bstep HB.out hb); clear hb)
    | (go_at_call 26; ((with_reducible refine (span_yes a 1 _ aA aS aR hV (by omega) (by omega) (by omega) (by omega)).mono ?_)); rintro e w' ⟨rfl, hb⟩; replace hV := hV.below hb; replace HB := Lib.hid (bstep HB.out hb); clear hb)
    | (go_at_call 26; ((with_reducible refine (span_yes b 1 _ aA aS aR hV (by omega) (by omega) (by omega) (by omega)).mono ?_)); rintro e w' ⟨rfl, hb⟩; replace hV := hV.below hb; replace HB := Lib.hid (bstep HB.out hb); clear hb)
    | (go_at_call 16; ((with_reducible refine (right_yes _ _ (by omega) (by omega)).mono ?_)); rintro e w' ⟨rfl, rfl⟩))
  go_ret
  exact ⟨rfl, HB.out⟩

set_option maxRecDepth 100000 in
set_option maxHeartbeats 1000000 in
theorem nextYL (a b : Int) (w : World) (aA aS aR : Addr) (hV : AV w aA aS aR) (h : 0 ≤ a) (h' : a < 131072) (hm : a % 8 = 0) (hq : a < 131064) (k : 0 ≤ b) (k' : b < 131072) (g : a ≤ b) :
    Calls Tryd.prog 9 #[.int .i64 a, .int .i64 b] w fun e w' => e = .returned (.bool true) ∧ Below w.heap.size w w' := by
  have ex : ((a + 8) / 8 + 1 != a / 8 + 1 + 1) = false := by simp; omega
  have ey : decide (a / 128 ≤ b / 128) = true := by simp; omega
  have HB := Lib.hid (Below.refl w.heap.size w)
  go_enter Tryd.func9, Tryd.ntmps9
  go_wp2_with (first
    | (go_at_call 11; ((with_reducible refine (shown_any _ aA aS aR hV).mono ?_)); rintro e w' ⟨rfl, hb⟩; replace hV := hV.below hb; replace HB := Lib.hid (bstep HB.out hb); clear hb)
    | (go_at_call 24; ((with_reducible refine (ref_yes _ _ aA aS aR hV (by omega) (by omega) (by omega)).mono ?_)); rintro e w' ⟨rfl, hb⟩; replace hV := hV.below hb; replace HB := Lib.hid (bstep HB.out hb); clear hb)
    | (go_at_call 26; ((with_reducible refine (span_yes a 1 _ aA aS aR hV (by omega) (by omega) (by omega) (by omega)).mono ?_)); rintro e w' ⟨rfl, hb⟩; replace hV := hV.below hb; replace HB := Lib.hid (bstep HB.out hb); clear hb)
    | (go_at_call 26; ((with_reducible refine (span_yes b 1 _ aA aS aR hV (by omega) (by omega) (by omega) (by omega)).mono ?_)); rintro e w' ⟨rfl, hb⟩; replace hV := hV.below hb; replace HB := Lib.hid (bstep HB.out hb); clear hb)
    | (go_at_call 16; ((with_reducible refine (right_yes _ _ (by omega) (by omega)).mono ?_)); rintro e w' ⟨rfl, rfl⟩))
  go_ret
  exact ⟨rfl, HB.out⟩

set_option maxRecDepth 100000 in
set_option maxHeartbeats 1000000 in
theorem nextZN (a b : Int) (w : World) (aA aS aR : Addr) (hV : AV w aA aS aR) (h : 0 ≤ a) (h' : a < 131072) (hm : a % 8 = 0) (hq : 131064 ≤ a) (hb2 : b < 0 ∨ 131072 ≤ b) :
    Calls Tryd.prog 9 #[.int .i64 a, .int .i64 b] w fun e w' => e = .returned (.bool true) ∧ Below w.heap.size w w' := by
  have HB2 := Lib.hid hb2
  clear hb2
  have HB := Lib.hid (Below.refl w.heap.size w)
  go_enter Tryd.func9, Tryd.ntmps9
  go_wp2_with (first
    | (go_at_call 11; ((with_reducible refine (shown_any _ aA aS aR hV).mono ?_)); rintro e w' ⟨rfl, hb⟩; replace hV := hV.below hb; replace HB := Lib.hid (bstep HB.out hb); clear hb)
    | (go_at_call 24; ((with_reducible refine (ref_yes _ _ aA aS aR hV (by omega) (by omega) (by omega)).mono ?_)); rintro e w' ⟨rfl, hb⟩; replace hV := hV.below hb; replace HB := Lib.hid (bstep HB.out hb); clear hb)
    | (go_at_call 26; ((with_reducible refine (span_yes a 1 _ aA aS aR hV (by omega) (by omega) (by omega) (by omega)).mono ?_)); rintro e w' ⟨rfl, hb⟩; replace hV := hV.below hb; replace HB := Lib.hid (bstep HB.out hb); clear hb)
    | (go_at_call 26; ((with_reducible refine (span_noA b 1 _ aA aS aR hV (by omega) HB2.out).mono ?_)); rintro e w' ⟨rfl, hb⟩; replace hV := hV.below hb; replace HB := Lib.hid (bstep HB.out hb); clear hb)
    | (go_at_call 16; ((with_reducible refine (right_yes _ _ (by omega) (by omega)).mono ?_)); rintro e w' ⟨rfl, rfl⟩))
  go_ret
  exact ⟨rfl, HB.out⟩

set_option maxRecDepth 100000 in
set_option maxHeartbeats 1000000 in
theorem nextZG (a b : Int) (w : World) (aA aS aR : Addr) (hV : AV w aA aS aR) (h : 0 ≤ a) (h' : a < 131072) (hm : a % 8 = 0) (hq : 131064 ≤ a) (k : 0 ≤ b) (k' : b < 131072) (g : b < a) :
    Calls Tryd.prog 9 #[.int .i64 a, .int .i64 b] w fun e w' => e = .returned (.bool true) ∧ Below w.heap.size w w' := by
  have HB := Lib.hid (Below.refl w.heap.size w)
  go_enter Tryd.func9, Tryd.ntmps9
  go_wp2_with (first
    | (go_at_call 11; ((with_reducible refine (shown_any _ aA aS aR hV).mono ?_)); rintro e w' ⟨rfl, hb⟩; replace hV := hV.below hb; replace HB := Lib.hid (bstep HB.out hb); clear hb)
    | (go_at_call 24; ((with_reducible refine (ref_yes _ _ aA aS aR hV (by omega) (by omega) (by omega)).mono ?_)); rintro e w' ⟨rfl, hb⟩; replace hV := hV.below hb; replace HB := Lib.hid (bstep HB.out hb); clear hb)
    | (go_at_call 26; ((with_reducible refine (span_yes a 1 _ aA aS aR hV (by omega) (by omega) (by omega) (by omega)).mono ?_)); rintro e w' ⟨rfl, hb⟩; replace hV := hV.below hb; replace HB := Lib.hid (bstep HB.out hb); clear hb)
    | (go_at_call 26; ((with_reducible refine (span_yes b 1 _ aA aS aR hV (by omega) (by omega) (by omega) (by omega)).mono ?_)); rintro e w' ⟨rfl, hb⟩; replace hV := hV.below hb; replace HB := Lib.hid (bstep HB.out hb); clear hb)
    | (go_at_call 16; ((with_reducible refine (right_yes _ _ (by omega) (by omega)).mono ?_)); rintro e w' ⟨rfl, rfl⟩))
  go_ret
  exact ⟨rfl, HB.out⟩

set_option maxRecDepth 100000 in
set_option maxHeartbeats 1000000 in
theorem nextZL (a b : Int) (w : World) (aA aS aR : Addr) (hV : AV w aA aS aR) (h : 0 ≤ a) (h' : a < 131072) (hm : a % 8 = 0) (hq : 131064 ≤ a) (k : 0 ≤ b) (k' : b < 131072) (g : a ≤ b) :
    Calls Tryd.prog 9 #[.int .i64 a, .int .i64 b] w fun e w' => e = .returned (.bool true) ∧ Below w.heap.size w w' := by
  have ey : decide (a / 128 ≤ b / 128) = true := by simp; omega
  have HB := Lib.hid (Below.refl w.heap.size w)
  go_enter Tryd.func9, Tryd.ntmps9
  go_wp2_with (first
    | (go_at_call 11; ((with_reducible refine (shown_any _ aA aS aR hV).mono ?_)); rintro e w' ⟨rfl, hb⟩; replace hV := hV.below hb; replace HB := Lib.hid (bstep HB.out hb); clear hb)
    | (go_at_call 24; ((with_reducible refine (ref_yes _ _ aA aS aR hV (by omega) (by omega) (by omega)).mono ?_)); rintro e w' ⟨rfl, hb⟩; replace hV := hV.below hb; replace HB := Lib.hid (bstep HB.out hb); clear hb)
    | (go_at_call 26; ((with_reducible refine (span_yes a 1 _ aA aS aR hV (by omega) (by omega) (by omega) (by omega)).mono ?_)); rintro e w' ⟨rfl, hb⟩; replace hV := hV.below hb; replace HB := Lib.hid (bstep HB.out hb); clear hb)
    | (go_at_call 26; ((with_reducible refine (span_yes b 1 _ aA aS aR hV (by omega) (by omega) (by omega) (by omega)).mono ?_)); rintro e w' ⟨rfl, hb⟩; replace hV := hV.below hb; replace HB := Lib.hid (bstep HB.out hb); clear hb)
    | (go_at_call 16; ((with_reducible refine (right_yes _ _ (by omega) (by omega)).mono ?_)); rintro e w' ⟨rfl, rfl⟩))
  go_ret
  exact ⟨rfl, HB.out⟩

theorem lawAddrNext (a b : Int) (w : World) (aA aS aR : Addr) (hV : AV w aA aS aR) :
    Calls Tryd.prog 9 #[.int .i64 a, .int .i64 b] w fun e w' => e = .returned (.bool true) ∧ Below w.heap.size w w' := by
  by_cases h : 0 ≤ a ∧ a < 131072
  · by_cases hm : a % 8 = 0
    · by_cases hq : a < 131064
      · by_cases k : 0 ≤ b ∧ b < 131072
        · by_cases g : b < a
          · exact nextYG a b w aA aS aR hV h.1 h.2 hm hq k.1 k.2 g
          · exact nextYL a b w aA aS aR hV h.1 h.2 hm hq k.1 k.2 (by omega)
        · exact nextYN a b w aA aS aR hV h.1 h.2 hm hq (by omega)
      · by_cases k : 0 ≤ b ∧ b < 131072
        · by_cases g : b < a
          · exact nextZG a b w aA aS aR hV h.1 h.2 hm (by omega) k.1 k.2 g
          · exact nextZL a b w aA aS aR hV h.1 h.2 hm (by omega) k.1 k.2 (by omega)
        · exact nextZN a b w aA aS aR hV h.1 h.2 hm (by omega) (by omega)
    · by_cases k : 0 ≤ b ∧ b < 131072
      · by_cases g : b < a
        · exact nextMG a b w aA aS aR hV h.1 h.2 hm k.1 k.2 g
        · exact nextML a b w aA aS aR hV h.1 h.2 hm k.1 k.2 (by omega)
      · exact nextMN a b w aA aS aR hV h.1 h.2 hm (by omega)
  · by_cases k : 0 ≤ b ∧ b < 131072
    · by_cases g : b < a
      · exact nextRG a b w aA aS aR hV (by omega) k.1 k.2 g
      · exact nextRL a b w aA aS aR hV (by omega) k.1 k.2 (by omega)
    · exact nextRN a b w aA aS aR hV (by omega) (by omega)

end Go.Proofs.YtllippnkijkjlaaDoor
