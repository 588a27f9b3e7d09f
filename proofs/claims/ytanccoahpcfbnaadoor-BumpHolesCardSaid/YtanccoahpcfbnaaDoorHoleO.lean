/-
  selionlaw08.shown returns true; what lay in memory stays.
-/
import Derived.Test.YtanccoahpcfbnaaDoorHoleN
namespace Go.Proofs.YtanccoahpcfbnaaDoor
open Go.RowKit Go.Lib Go.Shelf
attribute [local go_sem] Oper.semAt_some

theorem mk32f (W : World) : (Instr.makeSlice 35 (.int .i64 32) (.int .i64 32)).run Tryd.prog W = .ok (.slice (some ⟨W.heap.size, 0, none⟩) 32 32) (W.alloc (.cells zeros32 3)) := by kernel_rfl
theorem row_cellN {W : World} {base : Nat} {e : TypeId} {size g cap k : Nat} {xs : List Value} (h : World.ownsRow W base e size (.slice (some ⟨g, 0, none⟩) k cap) k xs) (i : Nat) (v : Value) (hi : xs[i]? = some v) : W.cell? ⟨g, i, none⟩ = some v := by
  rcases h.2 with ⟨h, _⟩ | ⟨g', cap', cur, hv, _, hgb, _, _, _, ht⟩
  · cases h
  · simp at hv
    obtain ⟨rfl, _⟩ := hv
    have : cur[i]? = some v := by
      rw [← ht, List.getElem?_take] at hi
      split at hi
      · simpa using hi
      · cases hi
    simp [World.cell?, hgb, this]
theorem HL.row {W : World} {base : Nat} {e : TypeId} {g cap cap' : Nat} {ps : List (Nat × Nat)} (h : World.ownsRow W base e 2 (.slice (some ⟨g, 0, none⟩) ps.length cap) ps.length (hvals ps)) (hl : ps.length ≤ 1000) : HL W (.slice (some ⟨g, 0, none⟩) ps.length cap') ps := by
  refine ⟨_, _, rfl, hl, fun i x hx => ⟨g, 0, rfl, ?_⟩⟩
  have hv := hvals_from ps i x hx
  rw [Nat.mul_comm] at hv
  rw [Nat.zero_add]
  exact ⟨row_cellN h _ _ hv.1, row_cellN h _ _ hv.2⟩
theorem HL.own {W : World} {base : Nat} {e : TypeId} {v : Value} {ps : List (Nat × Nat)} (h : World.ownsRow W base e 2 v ps.length (hvals ps)) (hl : ps.length ≤ 1000) : HL W v ps := by
  have h' := h
  rcases h.2 with ⟨rfl, h0⟩ | ⟨g, cap, cur, rfl, _⟩
  · have : ps = [] := List.length_eq_zero_iff.1 h0
    subst this
    exact ⟨none, 0, rfl, by simp, fun i x hx => by simp at hx⟩
  · exact HL.row h' hl
theorem HL.all {w w' : World} {g : Nat} {ps : List (Nat × Nat)} (h : HolesAt w w' g ps) (hl : ps.length ≤ 1000) : HL w' (.slice (some ⟨g, 0, none⟩) ps.length ps.length) ps := by
  obtain ⟨cap, h⟩ := h
  exact HL.row h hl

/-- The table that is shown. -/
def zShown (i : Nat) : Int := if i = 0 then 2 else if i = 5 then 1 else 0
theorem shown_all : holesZ (keptZ zShown) 0 = [(2, 5), (6, 32)] := by decide +kernel
theorem shown_next : (holesZ (keptZ zShown) (line0 3)).head? = some (3, 5) := by decide +kernel
theorem shown_fits : fitO (keptZ zShown) 4 = some (6, 32) := by decide +kernel
theorem shown_room : sumH (holesZ (keptZ zShown) 0) = 29 := by decide +kernel
theorem shown_max : maxH (holesZ (keptZ zShown) 0) = 26 := by decide +kernel
theorem shown_right : rightT zShown = true := by decide +kernel
theorem tab_shown (W : World) (B : Nat) (cs : Array Value) (t : TypeId) (h : Blk W B cs t) (hc : ∀ i, i < 32 → cs[i]? = some (.int .i64 (zShown i))) : Tab W B 0 zShown := fun i hi => by
  rw [Nat.zero_add]; exact h.cell (hc i hi)
theorem notab_nil (w : World) : NoTab w (.slice none 0 0) := .inl ⟨none, 0, 0, rfl, by decide⟩
theorem head3 : holesZ (keptZ zShown) 0 = [(2, 5), (6, 32)] := shown_all
theorem two_holes (w : World) : HL (w.alloc (.cells #[.int .i64 2, .int .i64 5, .int .i64 6, .int .i64 32] 53)) (.slice (some ⟨w.heap.size, 0, none⟩) 2 2) [(2, 5), (6, 32)] := by
  have b := Blk.new w #[.int .i64 2, .int .i64 5, .int .i64 6, .int .i64 32] 53
  refine ⟨_, _, rfl, by simp, fun i x hx => ⟨w.heap.size, 0, rfl, ?_⟩⟩
  match i, hx with
  | 0, hx => simp at hx; subst hx; exact ⟨b.cell rfl, b.cell rfl⟩
  | 1, hx => simp at hx; subst hx; exact ⟨b.cell rfl, b.cell rfl⟩

def AllS (w : World) (e : Ending) (w' : World) : Prop := ∃ g, e = .returned (.tuple #[.slice (some ⟨g, 0, none⟩) 2 2, .int .i64 0]) ∧ HL w' (.slice (some ⟨g, 0, none⟩) 2 2) [(2, 5), (6, 32)] ∧ Below w.heap.size w w'
theorem all_s (B : Nat) (w : World) (hT : Tab w B 0 zShown) : Calls Tryd.prog 30 #[.slice (some ⟨B, 0, none⟩) 32 32] w (AllS w) := by
  refine (all_yes B 0 32 zShown w hT shown_right).mono ?_
  rintro e w' ⟨g, rfl, hH, hb⟩
  rw [shown_all] at hH ⊢
  exact ⟨g, rfl, HL.all hH (by simp), hb⟩
theorem next_s (B : Nat) (w : World) (hT : Tab w B 0 zShown) : Calls Tryd.prog 39 #[.slice (some ⟨B, 0, none⟩) 32 32, .int .i64 3] w fun e w' => e = .returned (.tuple #[.agg #[.int .i64 3, .int .i64 5], .bool true]) ∧ Below w.heap.size w w' := by
  have := next_yes B 0 32 zShown 3 w hT shown_right
  rwa [shown_next] at this
theorem room_s (B : Nat) (w : World) (hT : Tab w B 0 zShown) : Calls Tryd.prog 29 #[.slice (some ⟨B, 0, none⟩) 32 32] w fun e w' => e = .returned (.int .i64 29) ∧ Below w.heap.size w w' := by
  have := room_yes B 0 32 zShown w hT shown_right
  rwa [shown_room] at this
theorem zeros32_get (i : Nat) (h : i < 32) : zeros32[i]? = some (.int .i64 0) := by simp [zeros32, h]
theorem shown_cells (i : Nat) (h : i < 32) : ((zeros32.setIfInBounds 0 (.int .i64 2)).setIfInBounds 5 (.int .i64 1))[i]? = some (.int .i64 (zShown i)) := by
  have hs : zeros32.size = 32 := by simp [zeros32]
  rw [Array.getElem?_setIfInBounds, Array.getElem?_setIfInBounds, zeros32_get i h]
  unfold zShown
  by_cases h5 : 5 = i
  · subst h5; simp [hs]
  · by_cases h0 : 0 = i
    · subst h0; simp [hs]
    · rw [if_neg h5, if_neg h0, if_neg (by omega), if_neg (by omega)]

end Go.Proofs.YtanccoahpcfbnaaDoor
