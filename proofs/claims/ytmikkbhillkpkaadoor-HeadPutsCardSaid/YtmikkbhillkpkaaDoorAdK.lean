/-
  addr.Join, by cases.
-/
import Derived.Test.YtmikkbhillkpkaaDoorAdH

namespace Go.Proofs.YtmikkbhillkpkaaDoor.Ad
open Go.RowKit Go.Lib

def okJ (b l t : Int) : Prop := 0 ≤ b ∧ b < 32 ∧ 0 ≤ l ∧ l < 32 ∧ 0 ≤ t ∧ t < 128
theorem join_ok (b l t : Int) (w : World) (aA aS aR : Addr) (hV : AV w aA aS aR) (h : okJ b l t) :
    Calls Tryd.prog 36 #[.int .i64 b, .int .i64 l, .int .i64 t] w fun e w' => e = .returned (.tuple #[.int .i64 (4096 * b + 128 * l + t), .int .i64 0]) ∧ Below w.heap.size w w' := by
  obtain ⟨h1, h2, h3, h4, h5, h6⟩ := h
  have hs : joinW b l t = 4096 * b + 128 * l + t := by
    unfold joinW
    rw [IntWalk.wrap64_in (b * 4096) ⟨by omega, by omega⟩, IntWalk.wrap64_in (b * 4096) ⟨by omega, by omega⟩, IntWalk.wrap64_in (l * 128) ⟨by omega, by omega⟩, IntWalk.wrap64_in t ⟨by omega, by omega⟩, IntWalk.wrap64_in (b * 4096 + l * 128) ⟨by omega, by omega⟩, IntWalk.wrap64_in _ ⟨by omega, by omega⟩]
    omega
  have hp : place3 (4096 * b + 128 * l + t) = #[.int .i64 b, .int .i64 l, .int .i64 t] := by
    rw [place3_yes _ (by omega) (by omega)]
    rw [show (4096 * b + 128 * l + t) / 4096 = b by omega, show (4096 * b + 128 * l + t) % 4096 / 128 = l by omega, show (4096 * b + 128 * l + t) % 128 = t by omega]
  exact join_yes b l t _ b l t w aA aS aR hV hs hp (by omega) (by omega) (by simp)
theorem join_bad (b l t : Int) (w : World) (aA aS aR : Addr) (hV : AV w aA aS aR) (h : ¬ okJ b l t) :
    Calls Tryd.prog 36 #[.int .i64 b, .int .i64 l, .int .i64 t] w fun e w' => e = .returned (.tuple #[.int .i64 0, .int .i64 10]) ∧ Below w.heap.size w w' := by
  generalize hs : joinW b l t = s
  by_cases hr : 0 ≤ s ∧ s < 131072
  · refine join_no1 b l t s _ _ _ w aA aS aR hV hs (place3_yes s hr.1 hr.2) hr.1 hr.2 ?_
    by_cases e : ((s / 4096 == b) && ((s % 4096 / 128 == l) && (s % 128 == t))) = true
    · exfalso
      simp at e
      exact h ⟨by omega, by omega, by omega, by omega, by omega, by omega⟩
    · simpa using e
  · exact join_no0 b l t s _ _ _ w aA aS aR hV hs rfl (by omega)
end Go.Proofs.YtmikkbhillkpkaaDoor.Ad
