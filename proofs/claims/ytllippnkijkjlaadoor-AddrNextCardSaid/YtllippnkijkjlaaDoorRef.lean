/-
  The reference of chapter 1 (selionref01): what each of its functions returns; the world is as it was.
-/
import Derived.Test.YtllippnkijkjlaaDoorAddrJ
namespace Go.Proofs.YtllippnkijkjlaaDoor
open Go.RowKit Go.Lib

theorem rright_yes (a : Int) (w : World) (h : 0 ≤ a) (h' : a < 131072) :
    Calls Tryd.prog 17 #[.int .i64 a] w fun e w' => e = .returned (.bool true) ∧ w = w' := by
  go_enter Tryd.func17, Tryd.ntmps17
  go_wp2
  go_ret
  exact ⟨rfl, rfl⟩

theorem rright_no (a : Int) (w : World) (h : a < 0 ∨ 131072 ≤ a) :
    Calls Tryd.prog 17 #[.int .i64 a] w fun e w' => e = .returned (.bool false) ∧ w = w' := by
  rcases h with h | h
  · go_enter Tryd.func17, Tryd.ntmps17
    go_wp2
    go_ret
    exact ⟨rfl, rfl⟩
  · have hd : decide (a < 131072) = false := by simpa using h
    go_enter Tryd.func17, Tryd.ntmps17
    go_wp2
    go_ret
    exact ⟨rfl, rfl⟩

theorem rsplit_yes (a : Int) (w : World) (h : 0 ≤ a) (h' : a < 131072) :
    Calls Tryd.prog 13 #[.int .i64 a] w fun e w' => e = .returned (.tuple #[.int .i64 (a / 4096), .int .i64 (a % 4096 / 128), .int .i64 (a % 128), .int .i64 0]) ∧ w = w' := by
  go_enter Tryd.func13, Tryd.ntmps13
  go_wp2
  exact bodyPost_ret (v := .tuple #[.int .i64 (a / 4096), .int .i64 (a % 4096 / 128), .int .i64 (a % 128), .int .i64 0]) (by simp [results, Tryd.results13, go_sem]) rfl ⟨rfl, rfl⟩

theorem rsplit_no (a : Int) (w : World) (h : a < 0 ∨ 131072 ≤ a) :
    Calls Tryd.prog 13 #[.int .i64 a] w fun e w' => e = .returned (.tuple #[.int .i64 0, .int .i64 0, .int .i64 0, .int .i64 10]) ∧ w = w' := by
  rcases h with h | h
  · go_enter Tryd.func13, Tryd.ntmps13
    go_wp2
    exact bodyPost_ret (v := .tuple #[.int .i64 0, .int .i64 0, .int .i64 0, .int .i64 10]) (by simp [results, Tryd.results13, go_sem]) rfl ⟨rfl, rfl⟩
  · have hd : decide (a < 131072) = false := by simpa using h
    go_enter Tryd.func13, Tryd.ntmps13
    go_wp2
    exact bodyPost_ret (v := .tuple #[.int .i64 0, .int .i64 0, .int .i64 0, .int .i64 10]) (by simp [results, Tryd.results13, go_sem]) rfl ⟨rfl, rfl⟩

theorem rjoin_yes (b l t : Int) (w : World) (h1 : 0 ≤ b) (h2 : b < 32) (h3 : 0 ≤ l) (h4 : l < 32) (h5 : 0 ≤ t) (h6 : t < 128) :
    Calls Tryd.prog 15 #[.int .i64 b, .int .i64 l, .int .i64 t] w fun e w' => e = .returned (.tuple #[.int .i64 (4096 * b + 128 * l + t), .int .i64 0]) ∧ w = w' := by
  go_enter Tryd.func15, Tryd.ntmps15
  go_wp2
  go_ret2
  exact ⟨rfl, rfl⟩

theorem rjoin_no (b l t : Int) (w : World) (h : b < 0 ∨ (0 ≤ b ∧ 32 ≤ b) ∨ (0 ≤ b ∧ b < 32 ∧ l < 0) ∨ (0 ≤ b ∧ b < 32 ∧ 0 ≤ l ∧ 32 ≤ l) ∨ (0 ≤ b ∧ b < 32 ∧ 0 ≤ l ∧ l < 32 ∧ t < 0) ∨ (0 ≤ b ∧ b < 32 ∧ 0 ≤ l ∧ l < 32 ∧ 0 ≤ t ∧ 128 ≤ t)) :
    Calls Tryd.prog 15 #[.int .i64 b, .int .i64 l, .int .i64 t] w fun e w' => e = .returned (.tuple #[.int .i64 0, .int .i64 10]) ∧ w = w' := by
  rcases h with h | ⟨h, h2⟩ | ⟨h, h2, h3⟩ | ⟨h, h2, h3, h4⟩ | ⟨h, h2, h3, h4, h5⟩ | ⟨h, h2, h3, h4, h5, h6⟩
  · go_enter Tryd.func15, Tryd.ntmps15
    go_wp2
    go_ret2
    exact ⟨rfl, rfl⟩
  · go_enter Tryd.func15, Tryd.ntmps15
    go_wp2
    go_ret2
    exact ⟨rfl, rfl⟩
  · go_enter Tryd.func15, Tryd.ntmps15
    go_wp2
    go_ret2
    exact ⟨rfl, rfl⟩
  · go_enter Tryd.func15, Tryd.ntmps15
    go_wp2
    go_ret2
    exact ⟨rfl, rfl⟩
  · go_enter Tryd.func15, Tryd.ntmps15
    go_wp2
    go_ret2
    exact ⟨rfl, rfl⟩
  · go_enter Tryd.func15, Tryd.ntmps15
    go_wp2
    go_ret2
    exact ⟨rfl, rfl⟩

theorem rspan_yes (a n : Int) (w : World) (h1 : 0 ≤ a) (h2 : a < 131072) (h3 : 1 ≤ n) (h4 : n ≤ 131072 - a) :
    Calls Tryd.prog 29 #[.int .i64 a, .int .i64 n] w fun e w' => e = .returned (.tuple #[.int .i64 (a / 128), .int .i64 ((a + n - 1) / 128), .int .i64 0]) ∧ w = w' := by
  go_enter Tryd.func29, Tryd.ntmps29
  go_wp2
  go_ret3
  exact ⟨rfl, rfl⟩

theorem rspan_no (a n : Int) (w : World) (h : a < 0 ∨ 131072 ≤ a ∨ (0 ≤ a ∧ a < 131072 ∧ n < 1) ∨ (0 ≤ a ∧ a < 131072 ∧ 1 ≤ n ∧ 131072 - a < n)) :
    Calls Tryd.prog 29 #[.int .i64 a, .int .i64 n] w fun e w' => e = .returned (.tuple #[.int .i64 0, .int .i64 0, .int .i64 10]) ∧ w = w' := by
  rcases h with h | h | ⟨h, h2, h3⟩ | ⟨h, h2, h3, h4⟩
  · go_enter Tryd.func29, Tryd.ntmps29
    go_wp2
    go_ret3
    exact ⟨rfl, rfl⟩
  · have hd : decide (a < 131072) = false := by simpa using h
    go_enter Tryd.func29, Tryd.ntmps29
    go_wp2
    go_ret3
    exact ⟨rfl, rfl⟩
  · go_enter Tryd.func29, Tryd.ntmps29
    go_wp2
    go_ret3
    exact ⟨rfl, rfl⟩
  · go_enter Tryd.func29, Tryd.ntmps29
    go_wp2
    go_ret3
    exact ⟨rfl, rfl⟩

theorem rround_yes (a : Int) (w : World) (h : 1 ≤ a) (h' : a ≤ 131072) :
    Calls Tryd.prog 19 #[.int .i64 a] w fun e w' => e = .returned (.tuple #[.int .i64 ((a + 7) / 8 * 8), .int .i64 0]) ∧ w = w' := by
  go_enter Tryd.func19, Tryd.ntmps19
  go_wp2
  go_ret2
  exact ⟨rfl, rfl⟩

theorem rround_no (a : Int) (w : World) (h : a < 1 ∨ 131072 < a) :
    Calls Tryd.prog 19 #[.int .i64 a] w fun e w' => e = .returned (.tuple #[.int .i64 0, .int .i64 11]) ∧ w = w' := by
  rcases h with h | h
  · go_enter Tryd.func19, Tryd.ntmps19
    go_wp2
    go_ret2
    exact ⟨rfl, rfl⟩
  · have hd : decide (a ≤ 131072) = false := by simpa using h
    go_enter Tryd.func19, Tryd.ntmps19
    go_wp2
    go_ret2
    exact ⟨rfl, rfl⟩

theorem rblocks_yes (a : Int) (w : World) (h : 1 ≤ a) (h' : a ≤ 131072) :
    Calls Tryd.prog 23 #[.int .i64 a] w fun e w' => e = .returned (.tuple #[.int .i64 ((a + 4096 - 1) / 4096), .int .i64 0]) ∧ w = w' := by
  go_enter Tryd.func23, Tryd.ntmps23
  go_wp2
  go_ret2
  exact ⟨rfl, rfl⟩

theorem rblocks_no (a : Int) (w : World) (h : a < 1 ∨ 131072 < a) :
    Calls Tryd.prog 23 #[.int .i64 a] w fun e w' => e = .returned (.tuple #[.int .i64 0, .int .i64 11]) ∧ w = w' := by
  rcases h with h | h
  · go_enter Tryd.func23, Tryd.ntmps23
    go_wp2
    go_ret2
    exact ⟨rfl, rfl⟩
  · have hd : decide (a ≤ 131072) = false := by simpa using h
    go_enter Tryd.func23, Tryd.ntmps23
    go_wp2
    go_ret2
    exact ⟨rfl, rfl⟩

theorem rclass_no (a : Int) (w : World) (h : a < 1 ∨ 131072 < a) :
    Calls Tryd.prog 21 #[.int .i64 a] w fun e w' => e = .returned (.tuple #[.int .i64 0, .int .i64 11]) ∧ w = w' := by
  rcases h with h | h
  · go_enter Tryd.func21, Tryd.ntmps21
    go_wp2
    go_ret2
    exact ⟨rfl, rfl⟩
  · have hd : decide (a ≤ 131072) = false := by simpa using h
    go_enter Tryd.func21, Tryd.ntmps21
    go_wp2
    go_ret2
    exact ⟨rfl, rfl⟩

theorem rclass1 (a : Int) (w : World) (h : 1 ≤ a) (h' : a ≤ 128) :
    Calls Tryd.prog 21 #[.int .i64 a] w fun e w' => e = .returned (.tuple #[.int .i64 1, .int .i64 0]) ∧ w = w' := by
  have hd : decide (a ≤ 131072) = true := by simp; omega
  go_enter Tryd.func21, Tryd.ntmps21
  go_wp2
  go_ret2
  exact ⟨rfl, rfl⟩

theorem rclass2 (a : Int) (w : World) (h : 128 < a) (h' : a ≤ 2048) :
    Calls Tryd.prog 21 #[.int .i64 a] w fun e w' => e = .returned (.tuple #[.int .i64 2, .int .i64 0]) ∧ w = w' := by
  have hd : decide (a ≤ 131072) = true := by simp; omega
  go_enter Tryd.func21, Tryd.ntmps21
  go_wp2
  go_ret2
  exact ⟨rfl, rfl⟩

theorem rclass3 (a : Int) (w : World) (h : 2048 < a) (h' : a ≤ 131072) :
    Calls Tryd.prog 21 #[.int .i64 a] w fun e w' => e = .returned (.tuple #[.int .i64 3, .int .i64 0]) ∧ w = w' := by
  go_enter Tryd.func21, Tryd.ntmps21
  go_wp2
  go_ret2
  exact ⟨rfl, rfl⟩

theorem rref_yes (a : Int) (w : World) (h : 0 ≤ a) (h' : a < 131072) (hm : (a % 8 != 0) = false) :
    Calls Tryd.prog 27 #[.int .i64 a] w fun e w' => e = .returned (.tuple #[.int .i64 (a / 8 + 1), .int .i64 0]) ∧ w = w' := by
  go_enter Tryd.func27, Tryd.ntmps27
  go_wp2
  go_ret2
  exact ⟨rfl, rfl⟩

theorem rref_no (a : Int) (w : World) (h : a < 0 ∨ 131072 ≤ a ∨ (0 ≤ a ∧ a < 131072 ∧ (a % 8 != 0) = true)) :
    Calls Tryd.prog 27 #[.int .i64 a] w fun e w' => e = .returned (.tuple #[.int .i64 0, .int .i64 10]) ∧ w = w' := by
  rcases h with h | h | ⟨h, h2, h3⟩
  · go_enter Tryd.func27, Tryd.ntmps27
    go_wp2
    go_ret2
    exact ⟨rfl, rfl⟩
  · have hd : decide (a < 131072) = false := by simpa using h
    go_enter Tryd.func27, Tryd.ntmps27
    go_wp2
    go_ret2
    exact ⟨rfl, rfl⟩
  · go_enter Tryd.func27, Tryd.ntmps27
    go_wp2
    go_ret2
    exact ⟨rfl, rfl⟩

theorem raddr_yes (a : Int) (w : World) (h : 1 ≤ a) (h' : a ≤ 16384) :
    Calls Tryd.prog 28 #[.int .i64 a] w fun e w' => e = .returned (.tuple #[.int .i64 (8 * (a - 1)), .int .i64 0]) ∧ w = w' := by
  go_enter Tryd.func28, Tryd.ntmps28
  go_wp2
  go_ret2
  exact ⟨rfl, rfl⟩

theorem raddr_no (a : Int) (w : World) (h : a < 1 ∨ (1 ≤ a ∧ 16384 < a)) :
    Calls Tryd.prog 28 #[.int .i64 a] w fun e w' => e = .returned (.tuple #[.int .i64 0, .int .i64 12]) ∧ w = w' := by
  rcases h with h | ⟨h, h2⟩
  · go_enter Tryd.func28, Tryd.ntmps28
    go_wp2
    go_ret2
    exact ⟨rfl, rfl⟩
  · go_enter Tryd.func28, Tryd.ntmps28
    go_wp2
    go_ret2
    exact ⟨rfl, rfl⟩

end Go.Proofs.YtllippnkijkjlaaDoor
