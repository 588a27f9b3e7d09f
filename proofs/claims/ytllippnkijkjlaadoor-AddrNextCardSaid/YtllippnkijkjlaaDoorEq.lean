/-
  Of each function of package addr: it answers as the reference does, for every number.
-/
import Derived.Test.YtllippnkijkjlaaDoorRef
import Derived.Test.YtllippnkijkjlaaDoorShown
import Derived.Test.YtllippnkijkjlaaDoorAddrG
namespace Go.Proofs.YtllippnkijkjlaaDoor
open Go.RowKit Go.Lib

theorem split_eq (a : Int) : ∃ b c d e : Int, (∀ (w : World) (aA aS aR : Addr), AV w aA aS aR → Calls Tryd.prog 12 #[.int .i64 a] w fun ee w' => ee = .returned (.tuple #[.int .i64 b, .int .i64 c, .int .i64 d, .int .i64 e]) ∧ Below w.heap.size w w') ∧ (∀ w : World, Calls Tryd.prog 13 #[.int .i64 a] w fun ee w' => ee = .returned (.tuple #[.int .i64 b, .int .i64 c, .int .i64 d, .int .i64 e]) ∧ w = w') := by
  by_cases h : 0 ≤ a ∧ a < 131072
  · exact ⟨_, _, _, _, fun w aA aS aR hV => split_yes a w aA aS aR hV h.1 h.2, fun w => rsplit_yes a w h.1 h.2⟩
  · exact ⟨_, _, _, _, fun w aA aS aR hV => split_no a w aA aS aR hV (by omega), fun w => rsplit_no a w (by omega)⟩

theorem join_eq (b l t : Int) : ∃ r e : Int, (∀ (w : World) (aA aS aR : Addr), AV w aA aS aR → Calls Tryd.prog 14 #[.int .i64 b, .int .i64 l, .int .i64 t] w fun ee w' => ee = .returned (.tuple #[.int .i64 r, .int .i64 e]) ∧ Below w.heap.size w w') ∧ (∀ w : World, Calls Tryd.prog 15 #[.int .i64 b, .int .i64 l, .int .i64 t] w fun ee w' => ee = .returned (.tuple #[.int .i64 r, .int .i64 e]) ∧ w = w') := by
  by_cases h : okJ b l t
  · exact ⟨_, _, fun w aA aS aR hV => join_ok b l t w aA aS aR hV h, fun w => rjoin_yes b l t w h.1 h.2.1 h.2.2.1 h.2.2.2.1 h.2.2.2.2.1 h.2.2.2.2.2⟩
  · exact ⟨_, _, fun w aA aS aR hV => join_bad b l t w aA aS aR hV h, fun w => rjoin_no b l t w (by unfold okJ at h; omega)⟩

theorem span_eq (a n : Int) : ∃ r s e : Int, (∀ (w : World) (aA aS aR : Addr), AV w aA aS aR → Calls Tryd.prog 26 #[.int .i64 a, .int .i64 n] w fun ee w' => ee = .returned (.tuple #[.int .i64 r, .int .i64 s, .int .i64 e]) ∧ Below w.heap.size w w') ∧ (∀ w : World, Calls Tryd.prog 29 #[.int .i64 a, .int .i64 n] w fun ee w' => ee = .returned (.tuple #[.int .i64 r, .int .i64 s, .int .i64 e]) ∧ w = w') := by
  by_cases h : 0 ≤ a ∧ a < 131072
  · by_cases hn : 1 ≤ n
    · by_cases hl : n ≤ 131072 - a
      · exact ⟨_, _, _, fun w aA aS aR hV => span_yes a n w aA aS aR hV hn h.1 h.2 hl, fun w => rspan_yes a n w h.1 h.2 hn hl⟩
      · exact ⟨_, _, _, fun w aA aS aR hV => span_noL a n w aA aS aR hV hn h.1 h.2 (by omega), fun w => rspan_no a n w (by omega)⟩
    · exact ⟨_, _, _, fun w aA aS aR hV => span_noN a n w aA aS aR hV (by omega), fun w => rspan_no a n w (by omega)⟩
  · by_cases hn : 1 ≤ n
    · exact ⟨_, _, _, fun w aA aS aR hV => span_noA a n w aA aS aR hV hn (by omega), fun w => rspan_no a n w (by omega)⟩
    · exact ⟨_, _, _, fun w aA aS aR hV => span_noN a n w aA aS aR hV (by omega), fun w => rspan_no a n w (by omega)⟩

theorem round_eq (a : Int) : ∃ r e : Int, (∀ (w : World) (aA aS aR : Addr), AV w aA aS aR → Calls Tryd.prog 18 #[.int .i64 a] w fun ee w' => ee = .returned (.tuple #[.int .i64 r, .int .i64 e]) ∧ Below w.heap.size w w') ∧ (∀ w : World, Calls Tryd.prog 19 #[.int .i64 a] w fun ee w' => ee = .returned (.tuple #[.int .i64 r, .int .i64 e]) ∧ w = w') := by
  by_cases h : 1 ≤ a ∧ a ≤ 131072
  · exact ⟨_, _, fun w aA aS aR hV => round_yes a w aA aS aR hV h.1 h.2, fun w => by have := rround_yes a w h.1 h.2; rwa [show a + 7 = a + 8 - 1 by omega] at this⟩
  · exact ⟨_, _, fun w aA aS aR hV => round_no a w aA aS aR hV (by omega), fun w => rround_no a w (by omega)⟩

theorem blocks_eq (a : Int) : ∃ r e : Int, (∀ (w : World) (aA aS aR : Addr), AV w aA aS aR → Calls Tryd.prog 22 #[.int .i64 a] w fun ee w' => ee = .returned (.tuple #[.int .i64 r, .int .i64 e]) ∧ Below w.heap.size w w') ∧ (∀ w : World, Calls Tryd.prog 23 #[.int .i64 a] w fun ee w' => ee = .returned (.tuple #[.int .i64 r, .int .i64 e]) ∧ w = w') := by
  by_cases h : 1 ≤ a ∧ a ≤ 131072
  · exact ⟨_, _, fun w aA aS aR hV => blocks_yes a w aA aS aR hV h.1 h.2, fun w => rblocks_yes a w h.1 h.2⟩
  · exact ⟨_, _, fun w aA aS aR hV => blocks_no a w aA aS aR hV (by omega), fun w => rblocks_no a w (by omega)⟩

theorem class_eq (a : Int) : ∃ r e : Int, (∀ (w : World) (aA aS aR : Addr), AV w aA aS aR → Calls Tryd.prog 20 #[.int .i64 a] w fun ee w' => ee = .returned (.tuple #[.int .i64 r, .int .i64 e]) ∧ Below w.heap.size w w') ∧ (∀ w : World, Calls Tryd.prog 21 #[.int .i64 a] w fun ee w' => ee = .returned (.tuple #[.int .i64 r, .int .i64 e]) ∧ w = w') := by
  by_cases h : 1 ≤ a ∧ a ≤ 131072
  · by_cases h1 : a ≤ 128
    · exact ⟨_, _, fun w aA aS aR hV => class1 a w aA aS aR hV h.1 h1, fun w => rclass1 a w h.1 h1⟩
    · by_cases h2 : a ≤ 2048
      · exact ⟨_, _, fun w aA aS aR hV => class2 a w aA aS aR hV (by omega) h2, fun w => rclass2 a w (by omega) h2⟩
      · exact ⟨_, _, fun w aA aS aR hV => class3 a w aA aS aR hV (by omega) h.2, fun w => rclass3 a w (by omega) h.2⟩
  · exact ⟨_, _, fun w aA aS aR hV => class_no a w aA aS aR hV (by omega), fun w => rclass_no a w (by omega)⟩

theorem ref_eq (a : Int) : ∃ r e : Int, (∀ (w : World) (aA aS aR : Addr), AV w aA aS aR → Calls Tryd.prog 24 #[.int .i64 a] w fun ee w' => ee = .returned (.tuple #[.int .i64 r, .int .i64 e]) ∧ Below w.heap.size w w') ∧ (∀ w : World, Calls Tryd.prog 27 #[.int .i64 a] w fun ee w' => ee = .returned (.tuple #[.int .i64 r, .int .i64 e]) ∧ w = w') := by
  by_cases h : 0 ≤ a ∧ a < 131072
  · by_cases hm : a % 8 = 0
    · exact ⟨_, _, fun w aA aS aR hV => ref_yes a w aA aS aR hV h.1 h.2 hm, fun w => rref_yes a w h.1 h.2 (by simpa using hm)⟩
    · exact ⟨_, _, fun w aA aS aR hV => ref_noM a w aA aS aR hV h.1 h.2 hm, fun w => rref_no a w (.inr (.inr ⟨h.1, h.2, by simpa using hm⟩))⟩
  · exact ⟨_, _, fun w aA aS aR hV => ref_noR a w aA aS aR hV (by omega), fun w => rref_no a w (by omega)⟩

theorem addr_eq (a : Int) : ∃ r e : Int, (∀ (w : World) (aA aS aR : Addr), AV w aA aS aR → Calls Tryd.prog 25 #[.int .i64 a] w fun ee w' => ee = .returned (.tuple #[.int .i64 r, .int .i64 e]) ∧ Below w.heap.size w w') ∧ (∀ w : World, Calls Tryd.prog 28 #[.int .i64 a] w fun ee w' => ee = .returned (.tuple #[.int .i64 r, .int .i64 e]) ∧ w = w') := by
  by_cases h : 1 ≤ a
  · by_cases h' : a ≤ 16384
    · exact ⟨_, _, fun w aA aS aR hV => addr_yes a w aA aS aR hV h h', fun w => by have := raddr_yes a w h h'; rwa [Int.mul_comm] at this⟩
    · exact ⟨_, _, fun w aA aS aR hV => addr_no2 a w aA aS aR hV h (by omega), fun w => raddr_no a w (by omega)⟩
  · exact ⟨_, _, fun w aA aS aR hV => addr_no1 a w aA aS aR hV (by omega), fun w => raddr_no a w (by omega)⟩

theorem rright_any (a : Int) (w : World) : Calls Tryd.prog 17 #[.int .i64 a] w fun e w' => e = .returned (.bool (rightB a)) ∧ w = w' := by
  by_cases h : 0 ≤ a ∧ a < 131072
  · rw [show rightB a = true by simp [rightB, h]]; exact rright_yes a w h.1 h.2
  · rw [show rightB a = false by simp [rightB]; omega]; exact rright_no a w (by omega)
end Go.Proofs.YtllippnkijkjlaaDoor
