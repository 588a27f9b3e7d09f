/-
  The statements of chapter 1 that speak of the program alone, walked: each returns true for every number, and what lay in memory stays.
-/
import Derived.Test.YtllippnkijkjlaaDoorEq
namespace Go.Proofs.YtllippnkijkjlaaDoor
open Go.RowKit Go.Lib

set_option maxRecDepth 100000 in
set_option maxHeartbeats 1000000 in
theorem spansY (a n : Int) (w : World) (aA aS aR : Addr) (hV : AV w aA aS aR) (hn : 1 ≤ n) (h : 0 ≤ a) (h' : a < 131072) (hl : n ≤ 131072 - a) :
    Calls Tryd.prog 7 #[.int .i64 a, .int .i64 n] w fun e w' => e = .returned (.bool true) ∧ Below w.heap.size w w' := by
  have e0 : decide (a / 128 ≤ (a + n - 1) / 128) = true := by simp; omega
  have e1 : (a / 128 == 32 * (a / 4096) + a % 4096 / 128) = true := by first | (simp; done) | (simp; omega)
  have e2 : ((a + n - 1) / 128 == 32 * ((a + n - 1) / 4096) + (a + n - 1) % 4096 / 128) = true := by first | (simp; done) | (simp; omega)
  have HB := Lib.hid (Below.refl w.heap.size w)
  go_enter Tryd.func7, Tryd.ntmps7
  go_wp2_with (first
    | (go_at_call 11; ((with_reducible refine (shown_any _ aA aS aR hV).mono ?_)); rintro e w' ⟨rfl, hb⟩; replace hV := hV.below hb; replace HB := Lib.hid (bstep HB.out hb); clear hb)
    | (go_at_call 26; ((with_reducible refine (span_yes a n _ aA aS aR hV (by omega) (by omega) (by omega) (by omega)).mono ?_)); rintro e w' ⟨rfl, hb⟩; replace hV := hV.below hb; replace HB := Lib.hid (bstep HB.out hb); clear hb)
    | (go_at_call 12; ((with_reducible refine (split_yes _ _ aA aS aR hV (by omega) (by omega)).mono ?_)); rintro e w' ⟨rfl, hb⟩; replace hV := hV.below hb; replace HB := Lib.hid (bstep HB.out hb); clear hb))
  go_ret
  exact ⟨rfl, HB.out⟩

set_option maxRecDepth 100000 in
set_option maxHeartbeats 1000000 in
theorem spansL (a n : Int) (w : World) (aA aS aR : Addr) (hV : AV w aA aS aR) (hn : 1 ≤ n) (h : 0 ≤ a) (h' : a < 131072) (hl : 131072 - a < n) :
    Calls Tryd.prog 7 #[.int .i64 a, .int .i64 n] w fun e w' => e = .returned (.bool true) ∧ Below w.heap.size w w' := by
  have HB := Lib.hid (Below.refl w.heap.size w)
  go_enter Tryd.func7, Tryd.ntmps7
  go_wp2_with (first
    | (go_at_call 11; ((with_reducible refine (shown_any _ aA aS aR hV).mono ?_)); rintro e w' ⟨rfl, hb⟩; replace hV := hV.below hb; replace HB := Lib.hid (bstep HB.out hb); clear hb)
    | (go_at_call 26; ((with_reducible refine (span_noL a n _ aA aS aR hV hn h h' hl).mono ?_)); rintro e w' ⟨rfl, hb⟩; replace hV := hV.below hb; replace HB := Lib.hid (bstep HB.out hb); clear hb))
  go_ret
  exact ⟨rfl, HB.out⟩

set_option maxRecDepth 100000 in
set_option maxHeartbeats 1000000 in
theorem spansA (a n : Int) (w : World) (aA aS aR : Addr) (hV : AV w aA aS aR) (hn : 1 ≤ n) (h : a < 0 ∨ 131072 ≤ a) :
    Calls Tryd.prog 7 #[.int .i64 a, .int .i64 n] w fun e w' => e = .returned (.bool true) ∧ Below w.heap.size w w' := by
  have H := Lib.hid h
  clear h
  have HB := Lib.hid (Below.refl w.heap.size w)
  go_enter Tryd.func7, Tryd.ntmps7
  go_wp2_with (first
    | (go_at_call 11; ((with_reducible refine (shown_any _ aA aS aR hV).mono ?_)); rintro e w' ⟨rfl, hb⟩; replace hV := hV.below hb; replace HB := Lib.hid (bstep HB.out hb); clear hb)
    | (go_at_call 26; ((with_reducible refine (span_noA a n _ aA aS aR hV hn H.out).mono ?_)); rintro e w' ⟨rfl, hb⟩; replace hV := hV.below hb; replace HB := Lib.hid (bstep HB.out hb); clear hb))
  go_ret
  exact ⟨rfl, HB.out⟩

set_option maxRecDepth 100000 in
set_option maxHeartbeats 1000000 in
theorem spansN (a n : Int) (w : World) (aA aS aR : Addr) (hV : AV w aA aS aR) (hn : n < 1) :
    Calls Tryd.prog 7 #[.int .i64 a, .int .i64 n] w fun e w' => e = .returned (.bool true) ∧ Below w.heap.size w w' := by
  have HB := Lib.hid (Below.refl w.heap.size w)
  go_enter Tryd.func7, Tryd.ntmps7
  go_wp2_with (first
    | (go_at_call 11; ((with_reducible refine (shown_any _ aA aS aR hV).mono ?_)); rintro e w' ⟨rfl, hb⟩; replace hV := hV.below hb; replace HB := Lib.hid (bstep HB.out hb); clear hb)
    | (go_at_call 26; ((with_reducible refine (span_noN a n _ aA aS aR hV hn).mono ?_)); rintro e w' ⟨rfl, hb⟩; replace hV := hV.below hb; replace HB := Lib.hid (bstep HB.out hb); clear hb))
  go_ret
  exact ⟨rfl, HB.out⟩

theorem lawAddrSpans (a n : Int) (w : World) (aA aS aR : Addr) (hV : AV w aA aS aR) :
    Calls Tryd.prog 7 #[.int .i64 a, .int .i64 n] w fun e w' => e = .returned (.bool true) ∧ Below w.heap.size w w' := by
  by_cases hn : 1 ≤ n
  · by_cases h : 0 ≤ a ∧ a < 131072
    · by_cases hl : n ≤ 131072 - a
      · exact spansY a n w aA aS aR hV hn h.1 h.2 hl
      · exact spansL a n w aA aS aR hV hn h.1 h.2 (by omega)
    · exact spansA a n w aA aS aR hV hn (by omega)
  · exact spansN a n w aA aS aR hV (by omega)

set_option maxRecDepth 100000 in
set_option maxHeartbeats 1000000 in
theorem rounds0 (n : Int) (w : World) (aA aS aR : Addr) (hV : AV w aA aS aR) (h : n < 1) :
    Calls Tryd.prog 8 #[.int .i64 n] w fun e w' => e = .returned (.bool true) ∧ Below w.heap.size w w' := by
  have HB := Lib.hid (Below.refl w.heap.size w)
  go_enter Tryd.func8, Tryd.ntmps8
  go_wp2_with (first
    | (go_at_call 11; ((with_reducible refine (shown_any _ aA aS aR hV).mono ?_)); rintro e w' ⟨rfl, hb⟩; replace hV := hV.below hb; replace HB := Lib.hid (bstep HB.out hb); clear hb)
    | (go_at_call 18; ((with_reducible refine (round_no _ _ aA aS aR hV (by omega)).mono ?_)); rintro e w' ⟨rfl, hb⟩; replace hV := hV.below hb; replace HB := Lib.hid (bstep HB.out hb); clear hb)
    | (go_at_call 20; ((with_reducible refine (class_no _ _ aA aS aR hV (by omega)).mono ?_)); rintro e w' ⟨rfl, hb⟩; replace hV := hV.below hb; replace HB := Lib.hid (bstep HB.out hb); clear hb)
    | (go_at_call 22; ((with_reducible refine (blocks_no _ _ aA aS aR hV (by omega)).mono ?_)); rintro e w' ⟨rfl, hb⟩; replace hV := hV.below hb; replace HB := Lib.hid (bstep HB.out hb); clear hb))
  go_ret
  exact ⟨rfl, HB.out⟩

set_option maxRecDepth 100000 in
set_option maxHeartbeats 1000000 in
theorem rounds4 (n : Int) (w : World) (aA aS aR : Addr) (hV : AV w aA aS aR) (h : 131072 < n) :
    Calls Tryd.prog 8 #[.int .i64 n] w fun e w' => e = .returned (.bool true) ∧ Below w.heap.size w w' := by
  have HB := Lib.hid (Below.refl w.heap.size w)
  go_enter Tryd.func8, Tryd.ntmps8
  go_wp2_with (first
    | (go_at_call 11; ((with_reducible refine (shown_any _ aA aS aR hV).mono ?_)); rintro e w' ⟨rfl, hb⟩; replace hV := hV.below hb; replace HB := Lib.hid (bstep HB.out hb); clear hb)
    | (go_at_call 18; ((with_reducible refine (round_no _ _ aA aS aR hV (by omega)).mono ?_)); rintro e w' ⟨rfl, hb⟩; replace hV := hV.below hb; replace HB := Lib.hid (bstep HB.out hb); clear hb)
    | (go_at_call 20; ((with_reducible refine (class_no _ _ aA aS aR hV (by omega)).mono ?_)); rintro e w' ⟨rfl, hb⟩; replace hV := hV.below hb; replace HB := Lib.hid (bstep HB.out hb); clear hb)
    | (go_at_call 22; ((with_reducible refine (blocks_no _ _ aA aS aR hV (by omega)).mono ?_)); rintro e w' ⟨rfl, hb⟩; replace hV := hV.below hb; replace HB := Lib.hid (bstep HB.out hb); clear hb))
  go_ret
  exact ⟨rfl, HB.out⟩

set_option maxRecDepth 100000 in
set_option maxHeartbeats 1000000 in
theorem rounds1 (n : Int) (w : World) (aA aS aR : Addr) (hV : AV w aA aS aR) (h : 1 ≤ n) (h' : n ≤ 128) :
    Calls Tryd.prog 8 #[.int .i64 n] w fun e w' => e = .returned (.bool true) ∧ Below w.heap.size w w' := by
  have e1 : ((n + 8 - 1) / 8 * 8 == ((n + 8 - 1) / 8 * 8 + 8 - 1) / 8 * 8) = true := by first | (simp; done) | (simp; omega)
  have e2 : decide (n ≤ (n + 8 - 1) / 8 * 8) = true := by first | (simp; done) | (simp; omega)
  have e3 : decide ((n + 8 - 1) / 8 * 8 < n + 8) = true := by first | (simp; done) | (simp; omega)
  have e4 : ((n + 8 - 1) / 8 * 8 % 8 == 0) = true := by first | (simp; done) | (simp; omega)
  have e6 : (((n + 8 - 1) / 8 * 8).tmod 8 == 0) = true := by rw [Int.tmod_eq_emod_of_nonneg (by omega)]; simp
  have e5 : ((n + 4096 - 1) / 4096 == ((n + 8 - 1) / 8 * 8 + 4096 - 1) / 4096) = true := by first | (simp; done) | (simp; omega)
  have e7 : ((n + 4096 - 1) / 4096 == 1) = true := by first | (simp; done) | (simp; omega)
  have HB := Lib.hid (Below.refl w.heap.size w)
  go_enter Tryd.func8, Tryd.ntmps8
  go_wp2_with (first
    | (go_at_call 11; ((with_reducible refine (shown_any _ aA aS aR hV).mono ?_)); rintro e w' ⟨rfl, hb⟩; replace hV := hV.below hb; replace HB := Lib.hid (bstep HB.out hb); clear hb)
    | (go_at_call 18; ((with_reducible refine (round_yes _ _ aA aS aR hV (by omega) (by omega)).mono ?_)); rintro e w' ⟨rfl, hb⟩; replace hV := hV.below hb; replace HB := Lib.hid (bstep HB.out hb); clear hb)
    | (go_at_call 20; ((with_reducible refine (class1 _ _ aA aS aR hV (by omega) (by omega)).mono ?_)); rintro e w' ⟨rfl, hb⟩; replace hV := hV.below hb; replace HB := Lib.hid (bstep HB.out hb); clear hb)
    | (go_at_call 22; ((with_reducible refine (blocks_yes _ _ aA aS aR hV (by omega) (by omega)).mono ?_)); rintro e w' ⟨rfl, hb⟩; replace hV := hV.below hb; replace HB := Lib.hid (bstep HB.out hb); clear hb))
  go_ret
  exact ⟨rfl, HB.out⟩

set_option maxRecDepth 100000 in
set_option maxHeartbeats 1000000 in
theorem rounds2 (n : Int) (w : World) (aA aS aR : Addr) (hV : AV w aA aS aR) (h : 128 < n) (h' : n ≤ 2048) :
    Calls Tryd.prog 8 #[.int .i64 n] w fun e w' => e = .returned (.bool true) ∧ Below w.heap.size w w' := by
  have e1 : ((n + 8 - 1) / 8 * 8 == ((n + 8 - 1) / 8 * 8 + 8 - 1) / 8 * 8) = true := by first | (simp; done) | (simp; omega)
  have e2 : decide (n ≤ (n + 8 - 1) / 8 * 8) = true := by first | (simp; done) | (simp; omega)
  have e3 : decide ((n + 8 - 1) / 8 * 8 < n + 8) = true := by first | (simp; done) | (simp; omega)
  have e4 : ((n + 8 - 1) / 8 * 8 % 8 == 0) = true := by first | (simp; done) | (simp; omega)
  have e6 : (((n + 8 - 1) / 8 * 8).tmod 8 == 0) = true := by rw [Int.tmod_eq_emod_of_nonneg (by omega)]; simp
  have e5 : ((n + 4096 - 1) / 4096 == ((n + 8 - 1) / 8 * 8 + 4096 - 1) / 4096) = true := by first | (simp; done) | (simp; omega)
  have e7 : ((n + 4096 - 1) / 4096 == 1) = true := by first | (simp; done) | (simp; omega)
  have HB := Lib.hid (Below.refl w.heap.size w)
  go_enter Tryd.func8, Tryd.ntmps8
  go_wp2_with (first
    | (go_at_call 11; ((with_reducible refine (shown_any _ aA aS aR hV).mono ?_)); rintro e w' ⟨rfl, hb⟩; replace hV := hV.below hb; replace HB := Lib.hid (bstep HB.out hb); clear hb)
    | (go_at_call 18; ((with_reducible refine (round_yes _ _ aA aS aR hV (by omega) (by omega)).mono ?_)); rintro e w' ⟨rfl, hb⟩; replace hV := hV.below hb; replace HB := Lib.hid (bstep HB.out hb); clear hb)
    | (go_at_call 20; ((with_reducible refine (class2 _ _ aA aS aR hV (by omega) (by omega)).mono ?_)); rintro e w' ⟨rfl, hb⟩; replace hV := hV.below hb; replace HB := Lib.hid (bstep HB.out hb); clear hb)
    | (go_at_call 22; ((with_reducible refine (blocks_yes _ _ aA aS aR hV (by omega) (by omega)).mono ?_)); rintro e w' ⟨rfl, hb⟩; replace hV := hV.below hb; replace HB := Lib.hid (bstep HB.out hb); clear hb))
  go_ret
  exact ⟨rfl, HB.out⟩

set_option maxRecDepth 100000 in
set_option maxHeartbeats 1000000 in
theorem rounds3 (n : Int) (w : World) (aA aS aR : Addr) (hV : AV w aA aS aR) (h : 2048 < n) (h' : n ≤ 131072) :
    Calls Tryd.prog 8 #[.int .i64 n] w fun e w' => e = .returned (.bool true) ∧ Below w.heap.size w w' := by
  have e1 : ((n + 8 - 1) / 8 * 8 == ((n + 8 - 1) / 8 * 8 + 8 - 1) / 8 * 8) = true := by first | (simp; done) | (simp; omega)
  have e2 : decide (n ≤ (n + 8 - 1) / 8 * 8) = true := by first | (simp; done) | (simp; omega)
  have e3 : decide ((n + 8 - 1) / 8 * 8 < n + 8) = true := by first | (simp; done) | (simp; omega)
  have e4 : ((n + 8 - 1) / 8 * 8 % 8 == 0) = true := by first | (simp; done) | (simp; omega)
  have e6 : (((n + 8 - 1) / 8 * 8).tmod 8 == 0) = true := by rw [Int.tmod_eq_emod_of_nonneg (by omega)]; simp
  have e5 : ((n + 4096 - 1) / 4096 == ((n + 8 - 1) / 8 * 8 + 4096 - 1) / 4096) = true := by first | (simp; done) | (simp; omega)
  have HB := Lib.hid (Below.refl w.heap.size w)
  go_enter Tryd.func8, Tryd.ntmps8
  go_wp2_with (first
    | (go_at_call 11; ((with_reducible refine (shown_any _ aA aS aR hV).mono ?_)); rintro e w' ⟨rfl, hb⟩; replace hV := hV.below hb; replace HB := Lib.hid (bstep HB.out hb); clear hb)
    | (go_at_call 18; ((with_reducible refine (round_yes _ _ aA aS aR hV (by omega) (by omega)).mono ?_)); rintro e w' ⟨rfl, hb⟩; replace hV := hV.below hb; replace HB := Lib.hid (bstep HB.out hb); clear hb)
    | (go_at_call 20; ((with_reducible refine (class3 _ _ aA aS aR hV (by omega) (by omega)).mono ?_)); rintro e w' ⟨rfl, hb⟩; replace hV := hV.below hb; replace HB := Lib.hid (bstep HB.out hb); clear hb)
    | (go_at_call 22; ((with_reducible refine (blocks_yes _ _ aA aS aR hV (by omega) (by omega)).mono ?_)); rintro e w' ⟨rfl, hb⟩; replace hV := hV.below hb; replace HB := Lib.hid (bstep HB.out hb); clear hb))
  go_ret
  exact ⟨rfl, HB.out⟩

theorem lawAddrRounds (n : Int) (w : World) (aA aS aR : Addr) (hV : AV w aA aS aR) :
    Calls Tryd.prog 8 #[.int .i64 n] w fun e w' => e = .returned (.bool true) ∧ Below w.heap.size w w' := by
  by_cases h0 : n < 1
  · exact rounds0 n w aA aS aR hV h0
  · by_cases h1 : n ≤ 128
    · exact rounds1 n w aA aS aR hV (by omega) h1
    · by_cases h2 : n ≤ 2048
      · exact rounds2 n w aA aS aR hV (by omega) h2
      · by_cases h3 : n ≤ 131072
        · exact rounds3 n w aA aS aR hV (by omega) h3
        · exact rounds4 n w aA aS aR hV (by omega)

end Go.Proofs.YtllippnkijkjlaaDoor
