/-
  selionref06.Decode, for every text; selionlaw06.cut.
-/
import Derived.Test.YtmikkbhillkpkaaDoorHrC
import Derived.Test.YtmikkbhillkpkaaDoorHdU
namespace Go.Proofs.YtmikkbhillkpkaaDoor
open Go.RowKit Go.Lib Go.Shelf
set_option linter.unusedSimpArgs false
set_option linter.unusedVariables false

theorem rDec_any (s : ByteArray) (w : World) : Calls Tryd.prog 14 #[.string s] w fun e w' =>
    e = .returned (.tuple #[.agg (marO (decL s.data.toList)), .int .i64 (if (decL s.data.toList).isSome then 0 else 60)]) ∧ Below w.heap.size w w' := by
  by_cases h8 : s.size = 8
  · obtain ⟨c0, c1, c2, c3, c4, c5, c6, c7, rfl⟩ := list8 h8
    have hN : ((rdN c1 c2 c3 c4 c5 c6 3 : Nat) : Int) = (c4.toNat : Int) + 256 * (c5.toNat : Int) + 65536 * (c6.toNat : Int) := by simp [rdN]
    have hM : mkA (mkN (rdN c1 c2 c3 c4 c5 c6 0) (rdN c1 c2 c3 c4 c5 c6 3) (rdN c1 c2 c3 c4 c5 c6 1) (rdN c1 c2 c3 c4 c5 c6 2)) = #[.int .i64 (c1.toNat : Int), .int .i64 ((c4.toNat : Int) + 256 * (c5.toNat : Int) + 65536 * (c6.toNat : Int)), .int .i64 (c2.toNat : Int), .int .i64 (c3.toNat : Int)] := by
      rw [← hN]; rfl
    have hd : decL (b8 c0 c1 c2 c3 c4 c5 c6 c7).data.toList = if rightB (mkN (rdN c1 c2 c3 c4 c5 c6 0) (rdN c1 c2 c3 c4 c5 c6 3) (rdN c1 c2 c3 c4 c5 c6 1) (rdN c1 c2 c3 c4 c5 c6 2)) = true ∧ [c0, c1, c2, c3, c4, c5, c6, c7] = hd8 (rdN c1 c2 c3 c4 c5 c6 0) (rdN c1 c2 c3 c4 c5 c6 3) (rdN c1 c2 c3 c4 c5 c6 1) (rdN c1 c2 c3 c4 c5 c6 2) then some (mkN (rdN c1 c2 c3 c4 c5 c6 0) (rdN c1 c2 c3 c4 c5 c6 3) (rdN c1 c2 c3 c4 c5 c6 1) (rdN c1 c2 c3 c4 c5 c6 2)) else none := rfl
    generalize rdN c1 c2 c3 c4 c5 c6 0 = K at hM hd
    generalize rdN c1 c2 c3 c4 c5 c6 3 = L at hM hd
    generalize rdN c1 c2 c3 c4 c5 c6 1 = C at hM hd
    generalize rdN c1 c2 c3 c4 c5 c6 2 = E at hM hd
    rw [hd]
    rcases mk_split (mkN K L C E) with hr | ⟨K', L', C', E', he, hK, hL, hC, hE⟩
    · rw [if_neg (fun h => by rw [hr] at h; exact absurd h.1 (by decide))]
      exact rDec_no _ _ _ _ _ _ _ _ (fun W => by rw [← hM]; exact rEnc_no _ hr W) w
    · simp only [mkN, Mk.mk.injEq, Int.ofNat_inj] at he
      obtain ⟨rfl, rfl, rfl, rfl⟩ := he
      have hr := rightB_in hK hL hC hE
      have hT := fun W => rEnc_yes K L C E hK hL hC hE W
      by_cases hs : [c0, c1, c2, c3, c4, c5, c6, c7] = hd8 K L C E
      · rw [if_pos ⟨hr, hs⟩]
        show Calls _ _ _ _ fun e w' => e = .returned (.tuple #[.agg (mkA (mkN K L C E)), .int .i64 0]) ∧ _
        rw [hM]
        refine rDec_eq _ _ _ _ _ _ _ _ (fun W => ?_) w
        have := hT W
        rw [← hs, hM] at this
        exact this
      · rw [if_neg (fun h => hs h.2)]
        refine rDec_ne _ _ _ _ _ _ _ _ _ ?_ (fun W => by rw [← hM]; exact hT W) w
        rw [beq_eq_false_iff_ne, ByteArray.toList_eq]
        exact fun h => hs (by simpa using h.symm)
  · rw [decL_len (fun h => h8 h)]
    exact rDec_len s h8 w
attribute [local go_sem] Oper.semAt_some
theorem cut_text (s : ByteArray) : ∃ t : ByteArray, ∀ w : World, Calls Tryd.prog 13 #[.string s] w fun e w' => e = .returned (.string t) ∧ w = w' := by
  rcases (by omega : (s.size : Int) ≤ 20 ∨ ¬ ((s.size : Int) ≤ 20)) with hc | hc
  · refine ⟨s, fun w => ?_⟩
    go_enter Tryd.func13, Tryd.ntmps13
    go_wp2
    go_ret
    exact ⟨rfl, rfl⟩
  · refine ⟨s.extract 0 20, fun w => ?_⟩
    have h2 : (20 : Int) ≤ (s.size : Int) := by omega
    go_enter Tryd.func13, Tryd.ntmps13
    go_wp2
    go_ret
    exact ⟨rfl, rfl⟩
end Go.Proofs.YtmikkbhillkpkaaDoor
