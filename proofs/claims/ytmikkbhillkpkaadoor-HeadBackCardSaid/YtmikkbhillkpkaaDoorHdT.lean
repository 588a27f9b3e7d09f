/-
  selionlaw06.HeadTurns, for every input.
-/
import Derived.Test.YtmikkbhillkpkaaDoorHdS
namespace Go.Proofs.YtmikkbhillkpkaaDoor
open Go.RowKit Go.Lib Go.Shelf
attribute [local go_sem] Oper.semAt_some
set_option linter.unusedSimpArgs false
set_option linter.unusedVariables false

theorem turn_out (e : Int) (h : e < 0 ∨ 255 < e) : turnZ e = 0 := by rw [turnZ, if_neg (by omega)]
theorem turn_in (e : Int) : 0 ≤ turnZ e ∧ turnZ e ≤ 255 := by unfold turnZ; split <;> omega
theorem turn_ne (e : Int) (h : 0 ≤ e ∧ e ≤ 255) : turnZ e ≠ e := by unfold turnZ; split <;> omega
theorem turn_inj (a b : Int) (ha : 0 ≤ a ∧ a ≤ 255) (hb : 0 ≤ b ∧ b ≤ 255) (h : turnZ a = turnZ b) : a = b := by
  unfold turnZ at h
  split at h <;> split at h <;> omega
set_option maxRecDepth 100000 in
set_option maxHeartbeats 1000000 in
theorem turns_LL (a b : Int) (ha : a < 0) (hb : b < 0) (w : World) (V : HR) (hV : HV w V) : Calls Tryd.prog 5 #[.int .i64 a, .int .i64 b] w fun e w' => e = .returned (.bool true) ∧ Below w.heap.size w w' := by
  have HS := Lib.hid (shown06 w V hV)
  have HA := Lib.hid (fun W => turn_any a W)
  have HT := Lib.hid (fun W => turn_any b W)
  have d0 : decide (a < 0) = true := by simp; omega
  have d1 : decide (0 ≤ a) = false := by simp; omega
  have d2 : decide (b < 0) = true := by simp; omega
  have d3 : decide (0 ≤ b) = false := by simp; omega
  rw [turn_out a (by omega)] at HA
  rw [turn_out b (by omega)] at HT
  clear hV ha hb
  go_enter Tryd.func5, Tryd.ntmps5
  go_wp2_with fail
  ((with_reducible refine HS.out.mono ?_))
  rintro e u1 ⟨rfl, hb⟩
  have HB := Lib.hid hb
  clear hb
  go_wp2_with fail
  ((with_reducible refine (HA.out u1).mono ?_))
  rintro e w' ⟨rfl, rfl⟩
  go_wp2_with fail
  ((with_reducible refine (HT.out u1).mono ?_))
  rintro e w' ⟨rfl, rfl⟩
  go_wp2
  go_ret
  exact ⟨rfl, HB.out⟩
set_option maxRecDepth 100000 in
set_option maxHeartbeats 1000000 in
theorem turns_LG (a b : Int) (ha : a < 0) (hb : 255 < b) (w : World) (V : HR) (hV : HV w V) : Calls Tryd.prog 5 #[.int .i64 a, .int .i64 b] w fun e w' => e = .returned (.bool true) ∧ Below w.heap.size w w' := by
  have HS := Lib.hid (shown06 w V hV)
  have HA := Lib.hid (fun W => turn_any a W)
  have HT := Lib.hid (fun W => turn_any b W)
  have d0 : decide (a < 0) = true := by simp; omega
  have d1 : decide (0 ≤ a) = false := by simp; omega
  have d2 : decide (b < 0) = false := by simp; omega
  have d3 : decide (255 < b) = true := by simp; omega
  have d4 : decide (0 ≤ b) = true := by simp; omega
  have d5 : decide (b ≤ 255) = false := by simp; omega
  rw [turn_out a (by omega)] at HA
  rw [turn_out b (by omega)] at HT
  clear hV ha hb
  go_enter Tryd.func5, Tryd.ntmps5
  go_wp2_with fail
  ((with_reducible refine HS.out.mono ?_))
  rintro e u1 ⟨rfl, hb⟩
  have HB := Lib.hid hb
  clear hb
  go_wp2_with fail
  ((with_reducible refine (HA.out u1).mono ?_))
  rintro e w' ⟨rfl, rfl⟩
  go_wp2_with fail
  ((with_reducible refine (HT.out u1).mono ?_))
  rintro e w' ⟨rfl, rfl⟩
  go_wp2
  go_ret
  exact ⟨rfl, HB.out⟩
set_option maxRecDepth 100000 in
set_option maxHeartbeats 1000000 in
theorem turns_LI (a b : Int) (ha : a < 0) (hb : 0 ≤ b ∧ b ≤ 255) (w : World) (V : HR) (hV : HV w V) : Calls Tryd.prog 5 #[.int .i64 a, .int .i64 b] w fun e w' => e = .returned (.bool true) ∧ Below w.heap.size w w' := by
  have HS := Lib.hid (shown06 w V hV)
  have HA := Lib.hid (fun W => turn_any a W)
  have HT := Lib.hid (fun W => turn_any b W)
  have d0 : decide (a < 0) = true := by simp; omega
  have d1 : decide (0 ≤ a) = false := by simp; omega
  have d2 : decide (b < 0) = false := by simp; omega
  have d3 : decide (255 < b) = false := by simp; omega
  have d4 : decide (0 ≤ b) = true := by simp; omega
  have d5 : decide (b ≤ 255) = true := by simp; omega
  rw [turn_out a (by omega)] at HA
  generalize turnZ b = q at HT
  clear hV ha hb
  go_enter Tryd.func5, Tryd.ntmps5
  go_wp2_with fail
  ((with_reducible refine HS.out.mono ?_))
  rintro e u1 ⟨rfl, hb⟩
  have HB := Lib.hid hb
  clear hb
  go_wp2_with fail
  ((with_reducible refine (HA.out u1).mono ?_))
  rintro e w' ⟨rfl, rfl⟩
  go_wp2_with fail
  ((with_reducible refine (HT.out u1).mono ?_))
  rintro e w' ⟨rfl, rfl⟩
  go_wp2
  go_ret
  exact ⟨rfl, HB.out⟩
set_option maxRecDepth 100000 in
set_option maxHeartbeats 1000000 in
theorem turns_GL (a b : Int) (ha : 255 < a) (hb : b < 0) (w : World) (V : HR) (hV : HV w V) : Calls Tryd.prog 5 #[.int .i64 a, .int .i64 b] w fun e w' => e = .returned (.bool true) ∧ Below w.heap.size w w' := by
  have HS := Lib.hid (shown06 w V hV)
  have HA := Lib.hid (fun W => turn_any a W)
  have HT := Lib.hid (fun W => turn_any b W)
  have d0 : decide (a < 0) = false := by simp; omega
  have d1 : decide (255 < a) = true := by simp; omega
  have d2 : decide (0 ≤ a) = true := by simp; omega
  have d3 : decide (a ≤ 255) = false := by simp; omega
  have d4 : decide (b < 0) = true := by simp; omega
  have d5 : decide (0 ≤ b) = false := by simp; omega
  rw [turn_out a (by omega)] at HA
  rw [turn_out b (by omega)] at HT
  clear hV ha hb
  go_enter Tryd.func5, Tryd.ntmps5
  go_wp2_with fail
  ((with_reducible refine HS.out.mono ?_))
  rintro e u1 ⟨rfl, hb⟩
  have HB := Lib.hid hb
  clear hb
  go_wp2_with fail
  ((with_reducible refine (HA.out u1).mono ?_))
  rintro e w' ⟨rfl, rfl⟩
  go_wp2_with fail
  ((with_reducible refine (HT.out u1).mono ?_))
  rintro e w' ⟨rfl, rfl⟩
  go_wp2
  go_ret
  exact ⟨rfl, HB.out⟩
set_option maxRecDepth 100000 in
set_option maxHeartbeats 1000000 in
theorem turns_GG (a b : Int) (ha : 255 < a) (hb : 255 < b) (w : World) (V : HR) (hV : HV w V) : Calls Tryd.prog 5 #[.int .i64 a, .int .i64 b] w fun e w' => e = .returned (.bool true) ∧ Below w.heap.size w w' := by
  have HS := Lib.hid (shown06 w V hV)
  have HA := Lib.hid (fun W => turn_any a W)
  have HT := Lib.hid (fun W => turn_any b W)
  have d0 : decide (a < 0) = false := by simp; omega
  have d1 : decide (255 < a) = true := by simp; omega
  have d2 : decide (0 ≤ a) = true := by simp; omega
  have d3 : decide (a ≤ 255) = false := by simp; omega
  have d4 : decide (b < 0) = false := by simp; omega
  have d5 : decide (255 < b) = true := by simp; omega
  have d6 : decide (0 ≤ b) = true := by simp; omega
  have d7 : decide (b ≤ 255) = false := by simp; omega
  rw [turn_out a (by omega)] at HA
  rw [turn_out b (by omega)] at HT
  clear hV ha hb
  go_enter Tryd.func5, Tryd.ntmps5
  go_wp2_with fail
  ((with_reducible refine HS.out.mono ?_))
  rintro e u1 ⟨rfl, hb⟩
  have HB := Lib.hid hb
  clear hb
  go_wp2_with fail
  ((with_reducible refine (HA.out u1).mono ?_))
  rintro e w' ⟨rfl, rfl⟩
  go_wp2_with fail
  ((with_reducible refine (HT.out u1).mono ?_))
  rintro e w' ⟨rfl, rfl⟩
  go_wp2
  go_ret
  exact ⟨rfl, HB.out⟩
set_option maxRecDepth 100000 in
set_option maxHeartbeats 1000000 in
theorem turns_GI (a b : Int) (ha : 255 < a) (hb : 0 ≤ b ∧ b ≤ 255) (w : World) (V : HR) (hV : HV w V) : Calls Tryd.prog 5 #[.int .i64 a, .int .i64 b] w fun e w' => e = .returned (.bool true) ∧ Below w.heap.size w w' := by
  have HS := Lib.hid (shown06 w V hV)
  have HA := Lib.hid (fun W => turn_any a W)
  have HT := Lib.hid (fun W => turn_any b W)
  have d0 : decide (a < 0) = false := by simp; omega
  have d1 : decide (255 < a) = true := by simp; omega
  have d2 : decide (0 ≤ a) = true := by simp; omega
  have d3 : decide (a ≤ 255) = false := by simp; omega
  have d4 : decide (b < 0) = false := by simp; omega
  have d5 : decide (255 < b) = false := by simp; omega
  have d6 : decide (0 ≤ b) = true := by simp; omega
  have d7 : decide (b ≤ 255) = true := by simp; omega
  rw [turn_out a (by omega)] at HA
  generalize turnZ b = q at HT
  clear hV ha hb
  go_enter Tryd.func5, Tryd.ntmps5
  go_wp2_with fail
  ((with_reducible refine HS.out.mono ?_))
  rintro e u1 ⟨rfl, hb⟩
  have HB := Lib.hid hb
  clear hb
  go_wp2_with fail
  ((with_reducible refine (HA.out u1).mono ?_))
  rintro e w' ⟨rfl, rfl⟩
  go_wp2_with fail
  ((with_reducible refine (HT.out u1).mono ?_))
  rintro e w' ⟨rfl, rfl⟩
  go_wp2
  go_ret
  exact ⟨rfl, HB.out⟩
set_option maxRecDepth 100000 in
set_option maxHeartbeats 1000000 in
theorem turns_IL (a b : Int) (ha : 0 ≤ a ∧ a ≤ 255) (hb : b < 0) (w : World) (V : HR) (hV : HV w V) : Calls Tryd.prog 5 #[.int .i64 a, .int .i64 b] w fun e w' => e = .returned (.bool true) ∧ Below w.heap.size w w' := by
  have HS := Lib.hid (shown06 w V hV)
  have HA := Lib.hid (fun W => turn_any a W)
  have HT := Lib.hid (fun W => turn_any b W)
  have d0 : decide (a < 0) = false := by simp; omega
  have d1 : decide (255 < a) = false := by simp; omega
  have d2 : decide (0 ≤ a) = true := by simp; omega
  have d3 : decide (a ≤ 255) = true := by simp; omega
  have d4 : decide (b < 0) = true := by simp; omega
  have d5 : decide (0 ≤ b) = false := by simp; omega
  generalize turnZ a = p at HA
  rw [turn_out b (by omega)] at HT
  clear hV ha hb
  go_enter Tryd.func5, Tryd.ntmps5
  go_wp2_with fail
  ((with_reducible refine HS.out.mono ?_))
  rintro e u1 ⟨rfl, hb⟩
  have HB := Lib.hid hb
  clear hb
  go_wp2_with fail
  ((with_reducible refine (HA.out u1).mono ?_))
  rintro e w' ⟨rfl, rfl⟩
  go_wp2_with fail
  ((with_reducible refine (HT.out u1).mono ?_))
  rintro e w' ⟨rfl, rfl⟩
  go_wp2
  go_ret
  exact ⟨rfl, HB.out⟩
set_option maxRecDepth 100000 in
set_option maxHeartbeats 1000000 in
theorem turns_IG (a b : Int) (ha : 0 ≤ a ∧ a ≤ 255) (hb : 255 < b) (w : World) (V : HR) (hV : HV w V) : Calls Tryd.prog 5 #[.int .i64 a, .int .i64 b] w fun e w' => e = .returned (.bool true) ∧ Below w.heap.size w w' := by
  have HS := Lib.hid (shown06 w V hV)
  have HA := Lib.hid (fun W => turn_any a W)
  have HT := Lib.hid (fun W => turn_any b W)
  have d0 : decide (a < 0) = false := by simp; omega
  have d1 : decide (255 < a) = false := by simp; omega
  have d2 : decide (0 ≤ a) = true := by simp; omega
  have d3 : decide (a ≤ 255) = true := by simp; omega
  have d4 : decide (b < 0) = false := by simp; omega
  have d5 : decide (255 < b) = true := by simp; omega
  have d6 : decide (0 ≤ b) = true := by simp; omega
  have d7 : decide (b ≤ 255) = false := by simp; omega
  generalize turnZ a = p at HA
  rw [turn_out b (by omega)] at HT
  clear hV ha hb
  go_enter Tryd.func5, Tryd.ntmps5
  go_wp2_with fail
  ((with_reducible refine HS.out.mono ?_))
  rintro e u1 ⟨rfl, hb⟩
  have HB := Lib.hid hb
  clear hb
  go_wp2_with fail
  ((with_reducible refine (HA.out u1).mono ?_))
  rintro e w' ⟨rfl, rfl⟩
  go_wp2_with fail
  ((with_reducible refine (HT.out u1).mono ?_))
  rintro e w' ⟨rfl, rfl⟩
  go_wp2
  go_ret
  exact ⟨rfl, HB.out⟩
set_option maxRecDepth 100000 in
set_option maxHeartbeats 1000000 in
theorem turns_eq (a b : Int) (ha : 0 ≤ a ∧ a ≤ 255) (hb : 0 ≤ b ∧ b ≤ 255) (he : a = b) (w : World) (V : HR) (hV : HV w V) : Calls Tryd.prog 5 #[.int .i64 a, .int .i64 b] w fun e w' => e = .returned (.bool true) ∧ Below w.heap.size w w' := by
  have HS := Lib.hid (shown06 w V hV)
  have HA := Lib.hid (fun W => turn_any a W)
  have HT := Lib.hid (fun W => turn_any b W)
  have d0 : decide (a < 0) = false := by simp; omega
  have d1 : decide (255 < a) = false := by simp; omega
  have d2 : decide (0 ≤ a) = true := by simp; omega
  have d3 : decide (a ≤ 255) = true := by simp; omega
  have d4 : decide (b < 0) = false := by simp; omega
  have d5 : decide (255 < b) = false := by simp; omega
  have d6 : decide (0 ≤ b) = true := by simp; omega
  have d7 : decide (b ≤ 255) = true := by simp; omega
  have hx := turn_in a
  have hne := turn_ne a ha
  have hxy : turnZ a = turnZ b := by rw [he]
  have hab : (a == b) = true := by simpa using he
  generalize turnZ a = p at HA hx hne hxy
  generalize turnZ b = q at HT hxy
  have x0 : decide (0 ≤ p) = true := by simp; omega
  have x1 : decide (p ≤ 255) = true := by simp; omega
  have x2 : (p == q) = true := by simpa using hxy
  have x3 : (p != a) = true := by simpa using hne
  clear hx hne hxy he
  clear hV ha hb
  go_enter Tryd.func5, Tryd.ntmps5
  go_wp2_with fail
  ((with_reducible refine HS.out.mono ?_))
  rintro e u1 ⟨rfl, hb⟩
  have HB := Lib.hid hb
  clear hb
  go_wp2_with fail
  ((with_reducible refine (HA.out u1).mono ?_))
  rintro e w' ⟨rfl, rfl⟩
  go_wp2_with fail
  ((with_reducible refine (HT.out u1).mono ?_))
  rintro e w' ⟨rfl, rfl⟩
  go_wp2
  go_ret
  exact ⟨rfl, HB.out⟩
set_option maxRecDepth 100000 in
set_option maxHeartbeats 1000000 in
theorem turns_ne (a b : Int) (ha : 0 ≤ a ∧ a ≤ 255) (hb : 0 ≤ b ∧ b ≤ 255) (he : a ≠ b) (w : World) (V : HR) (hV : HV w V) : Calls Tryd.prog 5 #[.int .i64 a, .int .i64 b] w fun e w' => e = .returned (.bool true) ∧ Below w.heap.size w w' := by
  have HS := Lib.hid (shown06 w V hV)
  have HA := Lib.hid (fun W => turn_any a W)
  have HT := Lib.hid (fun W => turn_any b W)
  have d0 : decide (a < 0) = false := by simp; omega
  have d1 : decide (255 < a) = false := by simp; omega
  have d2 : decide (0 ≤ a) = true := by simp; omega
  have d3 : decide (a ≤ 255) = true := by simp; omega
  have d4 : decide (b < 0) = false := by simp; omega
  have d5 : decide (255 < b) = false := by simp; omega
  have d6 : decide (0 ≤ b) = true := by simp; omega
  have d7 : decide (b ≤ 255) = true := by simp; omega
  have hx := turn_in a
  have hne := turn_ne a ha
  have hxy : turnZ a ≠ turnZ b := fun h => he (turn_inj a b ha hb h)
  have hab : (a == b) = false := by simpa using he
  generalize turnZ a = p at HA hx hne hxy
  generalize turnZ b = q at HT hxy
  have x0 : decide (0 ≤ p) = true := by simp; omega
  have x1 : decide (p ≤ 255) = true := by simp; omega
  have x2 : (p == q) = false := by simpa using hxy
  have x3 : (p != a) = true := by simpa using hne
  clear hx hne hxy he
  clear hV ha hb
  go_enter Tryd.func5, Tryd.ntmps5
  go_wp2_with fail
  ((with_reducible refine HS.out.mono ?_))
  rintro e u1 ⟨rfl, hb⟩
  have HB := Lib.hid hb
  clear hb
  go_wp2_with fail
  ((with_reducible refine (HA.out u1).mono ?_))
  rintro e w' ⟨rfl, rfl⟩
  go_wp2_with fail
  ((with_reducible refine (HT.out u1).mono ?_))
  rintro e w' ⟨rfl, rfl⟩
  go_wp2
  go_ret
  exact ⟨rfl, HB.out⟩
theorem lawHeadTurns (a b : Int) (w : World) (V : HR) (hV : HV w V) : Calls Tryd.prog 5 #[.int .i64 a, .int .i64 b] w fun e w' => e = .returned (.bool true) ∧ Below w.heap.size w w' := by
  rcases (by omega : a < 0 ∨ 255 < a ∨ (0 ≤ a ∧ a ≤ 255)) with ha | ha | ha <;> rcases (by omega : b < 0 ∨ 255 < b ∨ (0 ≤ b ∧ b ≤ 255)) with hb | hb | hb
  · exact turns_LL a b ha hb w V hV
  · exact turns_LG a b ha hb w V hV
  · exact turns_LI a b ha hb w V hV
  · exact turns_GL a b ha hb w V hV
  · exact turns_GG a b ha hb w V hV
  · exact turns_GI a b ha hb w V hV
  · exact turns_IL a b ha hb w V hV
  · exact turns_IG a b ha hb w V hV
  · by_cases he : a = b
    · exact turns_eq a b ha hb he w V hV
    · exact turns_ne a b ha hb he w V hV
end Go.Proofs.YtmikkbhillkpkaaDoor
