/-
  selionlaw07.Cut; selionref08.Same and selionref02.Ints of equal lists; what lay in memory stays.
-/
import Derived.Test.YtanccoahpcfbnaaDoorHoleM
import Derived.Deep.QuietTactic
import Derived.BigQuiet
namespace Go.Proofs.YtanccoahpcfbnaaDoor
open Go.RowKit Go.Lib Go.Shelf
attribute [local go_sem] Oper.semAt_some

theorem cut_any (p : Option Addr) (n cap : Nat) (w : World) (h : n ≤ cap) (hm : cap ≤ maxLen) :
    Calls Tryd.prog 19 #[.slice p n cap] w fun e w' => e = .returned (.slice p (min n 34) cap) ∧ w = w' := by
  unfold maxLen at hm
  by_cases hn : n ≤ 34
  · rw [Nat.min_eq_left hn]
    go_enter Tryd.func19, Tryd.ntmps19
    go_wp2
    go_ret
    exact ⟨rfl, rfl⟩
  · rw [Nat.min_eq_right (by omega)]
    go_enter Tryd.func19, Tryd.ntmps19
    go_wp2
    go_ret
    exact ⟨rfl, rfl⟩

/-- A list of holes in memory. -/
def HL (w : World) (v : Value) (ps : List (Nat × Nat)) : Prop := ∃ p cap, v = .slice p ps.length cap ∧ ps.length ≤ 1000 ∧ ∀ i x, ps[i]? = some x → ∃ b o, p = some ⟨b, o, none⟩ ∧ w.cell? ⟨b, o + i * 2, none⟩ = some (.int .i64 (x.1 : Int)) ∧ w.cell? ⟨b, o + i * 2 + 1, none⟩ = some (.int .i64 (x.2 : Int))
/-- A list of numbers in memory. -/
def IL (w : World) (v : Value) (ps : List Int) : Prop := ∃ p cap, v = .slice p ps.length cap ∧ ps.length ≤ 1000 ∧ ∀ i x, ps[i]? = some x → ∃ b o, p = some ⟨b, o, none⟩ ∧ w.cell? ⟨b, o + i, none⟩ = some (.int .i64 x)
theorem HL.below {w w' : World} {v : Value} {ps : List (Nat × Nat)} (h : HL w v ps) (hb : Below w.heap.size w w') : HL w' v ps := by
  obtain ⟨p, cap, e, hl, hc⟩ := h
  exact ⟨p, cap, e, hl, fun i x hx => by obtain ⟨b, o, e, c0, c1⟩ := hc i x hx; exact ⟨b, o, e, cell_below c0 hb, cell_below c1 hb⟩⟩
theorem IL.below {w w' : World} {v : Value} {ps : List Int} (h : IL w v ps) (hb : Below w.heap.size w w') : IL w' v ps := by
  obtain ⟨p, cap, e, hl, hc⟩ := h
  exact ⟨p, cap, e, hl, fun i x hx => by obtain ⟨b, o, e, c0⟩ := hc i x hx; exact ⟨b, o, e, cell_below c0 hb⟩⟩

theorem below_drewN {n : Nat} {w w' : World} (h : Below n w w') (k : Nat) : Below n w (w'.drewN k) := h.trans ⟨rfl, rfl, rfl, Nat.le_refl _, fun _ _ => rfl⟩

set_option maxRecDepth 100000 in
set_option maxHeartbeats 2000000 in
theorem same_yes (v u : Value) (ps : List (Nat × Nat)) (w : World) (hv : HL w v ps) (hu : HL w u ps) :
    Calls Tryd.prog 31 #[v, u] w fun e w' => e = .returned (.bool true) ∧ Below w.heap.size w w' := by
  obtain ⟨p, cap, rfl, hl, hp⟩ := hv
  obtain ⟨q, cap', rfl, _, hq⟩ := hu
  have HP := Lib.hid hp
  have HQ := Lib.hid hq
  clear hp hq
  generalize hn : ps.length = n at hl ⊢
  have HN := Lib.hid hn
  have hd : ((n : Int) != (n : Int)) = false := by simp
  clear hn
  go_enter Tryd.func31, Tryd.ntmps31
  go_wp2
  go_loopw [5] (fun i wr => ∃ k : Nat, k ≤ n ∧ i = .int .i64 (k : Int) ∧ Below w.heap.size w wr) (fun i _ => n - (intOf i).toNat)
  case atStart => exact ⟨0, by omega, rfl, Below.refl _ _⟩
  case round =>
    obtain ⟨k, hk, rfl, hB⟩ := hrel
    by_cases hlt : k < n
    · have hlt' : k < ps.length := by have := HN.out; omega
      obtain ⟨b, o, rfl, c0, c1⟩ := HP.out k _ (List.getElem?_eq_getElem hlt')
      obtain ⟨b', o', rfl, d0, d1⟩ := HQ.out k _ (List.getElem?_eq_getElem hlt')
      generalize ps[k] = x at c0 c1 d0 d1
      replace c0 := cell_below c0 hB
      replace c1 := cell_below c1 hB
      replace d0 := cell_below d0 hB
      replace d1 := cell_below d1 hB
      have HB := Lib.hid hB
      clear hB
      have i0 : (0 : Int) ≤ (k : Int) := by omega
      have i1 : (k : Int) < (n : Int) := by omega
      go_wp2
      go_quiet (fail)
      go_wp2
      go_roundw
      case rel => exact ⟨k + 1, by omega, by go_num, below_drewN HB.out _⟩
      case measure => simp [intOf]; omega
    · have HB := Lib.hid hB
      clear hB
      go_wp2
      go_ret
      exact ⟨rfl, HB.out⟩

end Go.Proofs.YtanccoahpcfbnaaDoor
