/-
  selionref07.Right and selionref07.Kept: which lists are tables, which lines are kept; nothing in memory is changed.
-/
import Derived.Test.YtanccoahpcfbnaaDoorMarksC
import Derived.Test.YtanccoahpcfbnaaDoorRowKit
import Derived.Test.YtanccoahpcfbnaaDoorRowTab
import Derived.Deep.QuietTactic
import Derived.BigQuiet
namespace Go.Proofs.YtanccoahpcfbnaaDoor
open Go.RowKit Go.Lib Go.Shelf
attribute [local go_sem] Oper.semAt_some

set_option maxRecDepth 100000 in
theorem rright_yes (b o cap : Nat) (z : Nat → Int) (w : World) (hT : Tab w b o z) (h : rightT z = true) :
    Calls Tryd.prog 55 #[.slice (some ⟨b, o, none⟩) 32 cap] w fun e w' => e = .returned (.bool true) ∧ w = w' := by
  have HT := Lib.hid hT
  have HR := Lib.hid ((rightT_iff z).1 h)
  clear hT h
  go_enter Tryd.func55, Tryd.ntmps55
  go_wp2
  go_loop [3] (fun i => ∃ k : Nat, k ≤ 32 ∧ i = .int .i64 (k : Int)) (fun i => 64 - (intOf i).toNat)
  case atStart => exact ⟨0, by omega, rfl⟩
  case round =>
    obtain ⟨k, hk, rfl⟩ := hrel
    by_cases hlt : k < 32
    · have c0 := HT.out k hlt
      obtain ⟨r0, r2⟩ := HR.out k hlt
      have i0 : (0 : Int) ≤ (k : Int) := by omega
      have i1 : (k : Int) < 32 := by omega
      generalize z k = x at c0 r0 r2
      go_wp2
      go_round
      case rel => exact ⟨k + 1, by omega, by go_num⟩
      case measure => simp [intOf]; omega
    · obtain rfl : k = 32 := by omega
      go_wp2
      go_ret
      exact ⟨rfl, rfl⟩

/-- No table: what has been looked at so far was right. -/
def rgtTo (w : World) (p : Option Addr) (k : Nat) : Prop := ∀ i b o x, i < k → p = some ⟨b, o, none⟩ → w.cell? ⟨b, o + i, none⟩ = some (.int .i64 x) → 0 ≤ x ∧ x ≤ 2
theorem rgtTo_all {w : World} {p : Option Addr} {cap : Nat} (h : rgtTo w p 32) (hI : IC w p 32) : ¬ NoTab w (.slice p 32 cap) := by
  rintro (⟨q, n, cap', e, hn⟩ | ⟨b, o, cap', z, e, hT, hr⟩)
  · simp at e; omega
  · simp at e
    obtain ⟨rfl, _⟩ := e
    have : rightT z = true := (rightT_iff z).2 fun i hi => h i b o (z i) hi rfl (hT i hi)
    rw [this] at hr; cases hr

set_option maxRecDepth 100000 in
theorem rright_no (p : Option Addr) (n cap : Nat) (w : World) (hI : IC w p n) (hn : n ≤ 34) (hA : NoTab w (.slice p n cap)) :
    Calls Tryd.prog 55 #[.slice p n cap] w fun e w' => e = .returned (.bool false) ∧ w = w' := by
  have HI := Lib.hid hI
  have HA := Lib.hid hA
  clear hI hA
  go_enter Tryd.func55, Tryd.ntmps55
  go_wp2
  go_loop [3] (fun i => ∃ k : Nat, k ≤ n ∧ i = .int .i64 (k : Int) ∧ rgtTo w p k) (fun i => 64 - (intOf i).toNat)
  case atStart => exact ⟨0, by omega, rfl, fun i b o x h => by omega⟩
  case round =>
    obtain ⟨k, hk, rfl, hG⟩ := hrel
    have HG := Lib.hid hG
    clear hG
    by_cases hlt : k < n
    · obtain ⟨b, o, x, rfl, c0, _⟩ := HI.out k hlt
      have i0 : (0 : Int) ≤ (k : Int) := by omega
      have i1 : (k : Int) < (n : Int) := by omega
      by_cases h0 : x < 0
      · go_wp2
        go_ret
        exact ⟨rfl, rfl⟩
      · by_cases h2 : 2 < x
        · go_wp2
          go_ret
          exact ⟨rfl, rfl⟩
        · have h0' : 0 ≤ x := by omega
          have h2' : x ≤ 2 := by omega
          clear h0 h2
          have hG' : rgtTo w (some ⟨b, o, none⟩) (k + 1) := fun i b' o' x' hi e hc => by
            by_cases e' : i = k
            · subst e'
              simp at e
              obtain ⟨rfl, rfl⟩ := e
              rw [c0] at hc
              simp at hc
              omega
            · exact HG.out i b' o' x' (by omega) e hc
          have HG' := Lib.hid hG'
          clear hG'
          go_wp2
          go_round
          case rel => exact ⟨k + 1, by omega, by go_num, HG'.out⟩
          case measure => simp [intOf]; omega
    · obtain rfl : k = n := by omega
      have hne : k ≠ 32 := by
        rintro rfl
        exact rgtTo_all HG.out HI.out HA.out
      have e0 : ((k : Int) == 32) = false := by simp; omega
      clear hne
      go_wp2
      go_ret
      exact ⟨rfl, rfl⟩

set_option maxRecDepth 100000 in
theorem rkept_in (i : Nat) (b o cap : Nat) (z : Nat → Int) (w : World) (hT : Tab w b o z) (hr : rightT z = true) (hi : i < 32) :
    Calls Tryd.prog 56 #[.slice (some ⟨b, o, none⟩) 32 cap, .int .i64 (i : Int)] w fun e w' => e = .returned (.bool (keptZ z i)) ∧ w = w' := by
  have HRT := Lib.hid (rright_yes b o cap z w hT hr)
  have ci := hT i hi
  by_cases h0 : z i = 0
  · have e0 : (z i != 0) = false := by simpa using h0
    by_cases hi0 : i = 0
    · subst hi0
      have hr : keptZ z 0 = false := by simp [keptZ, h0]
      rw [hr]
      have c0 : w.cell? ⟨b, o, none⟩ = some (.int .i64 (z 0)) := ci
      clear hr h0 hT ci
      rw [show ((0 : Nat) : Int) = 0 from rfl]
      go_enter Tryd.func56, Tryd.ntmps56
      go_wp2_with (go_at_call 55; ((with_reducible refine HRT.out.mono ?_)); rintro e w' ⟨rfl, rfl⟩)
      go_ret
      exact ⟨rfl, rfl⟩
    · have cj := hT (i - 1) (by omega)
      have hp : 0 < i := by omega
      by_cases h2 : z (i - 1) = 2
      · have hr : keptZ z i = true := by simp [keptZ, h2, hp]
        have e2 : (z (i - 1) == 2) = true := by simpa using h2
        rw [hr]
        clear hr h0 hT h2 hi0
        go_enter Tryd.func56, Tryd.ntmps56
        go_wp2_with (go_at_call 55; ((with_reducible refine HRT.out.mono ?_)); rintro e w' ⟨rfl, rfl⟩)
        go_ret
        exact ⟨rfl, rfl⟩
      · have hr : keptZ z i = false := by simp [keptZ, h0, h2]
        have e2 : (z (i - 1) == 2) = false := by simpa using h2
        rw [hr]
        clear hr h0 hT h2 hi0
        go_enter Tryd.func56, Tryd.ntmps56
        go_wp2_with (go_at_call 55; ((with_reducible refine HRT.out.mono ?_)); rintro e w' ⟨rfl, rfl⟩)
        go_ret
        exact ⟨rfl, rfl⟩
  · have hr : keptZ z i = true := by simp [keptZ, h0]
    have e0 : (z i != 0) = true := by simpa using h0
    rw [hr]
    clear hr h0 hT
    go_enter Tryd.func56, Tryd.ntmps56
    go_wp2_with (go_at_call 55; ((with_reducible refine HRT.out.mono ?_)); rintro e w' ⟨rfl, rfl⟩)
    go_ret
    exact ⟨rfl, rfl⟩
theorem rkept_t (i : Nat) (b o cap : Nat) (z : Nat → Int) (w : World) (hT : Tab w b o z) (hr : rightT z = true) (hi : i < 32) (hk : keptZ z i = true) :
    Calls Tryd.prog 56 #[.slice (some ⟨b, o, none⟩) 32 cap, .int .i64 (i : Int)] w fun e w' => e = .returned (.bool true) ∧ w = w' := by
  have := rkept_in i b o cap z w hT hr hi
  rwa [hk] at this
theorem rkept_f (i : Nat) (b o cap : Nat) (z : Nat → Int) (w : World) (hT : Tab w b o z) (hr : rightT z = true) (hi : i < 32) (hk : keptZ z i = false) :
    Calls Tryd.prog 56 #[.slice (some ⟨b, o, none⟩) 32 cap, .int .i64 (i : Int)] w fun e w' => e = .returned (.bool false) ∧ w = w' := by
  have := rkept_in i b o cap z w hT hr hi
  rwa [hk] at this
theorem rkept_out (i : Int) (b o cap : Nat) (z : Nat → Int) (w : World) (hT : Tab w b o z) (hr : rightT z = true) (hi : i < 0 ∨ 32 ≤ i) :
    Calls Tryd.prog 56 #[.slice (some ⟨b, o, none⟩) 32 cap, .int .i64 i] w fun e w' => e = .returned (.bool false) ∧ w = w' := by
  have HRT := Lib.hid (rright_yes b o cap z w hT hr)
  rcases hi with hi | hi
  · go_enter Tryd.func56, Tryd.ntmps56
    go_wp2_with (go_at_call 55; ((with_reducible refine HRT.out.mono ?_)); rintro e w' ⟨rfl, rfl⟩)
    go_ret
    exact ⟨rfl, rfl⟩
  · go_enter Tryd.func56, Tryd.ntmps56
    go_wp2_with (go_at_call 55; ((with_reducible refine HRT.out.mono ?_)); rintro e w' ⟨rfl, rfl⟩)
    go_ret
    exact ⟨rfl, rfl⟩
theorem rkept_no (i : Int) (p : Option Addr) (n cap : Nat) (w : World) (hI : IC w p n) (hn : n ≤ 34) (hA : NoTab w (.slice p n cap)) :
    Calls Tryd.prog 56 #[.slice p n cap, .int .i64 i] w fun e w' => e = .returned (.bool false) ∧ w = w' := by
  have HRT := Lib.hid (rright_no p n cap w hI hn hA)
  clear hI hA
  go_enter Tryd.func56, Tryd.ntmps56
  go_wp2_with (go_at_call 55; ((with_reducible refine HRT.out.mono ?_)); rintro e w' ⟨rfl, rfl⟩)
  go_ret
  exact ⟨rfl, rfl⟩
end Go.Proofs.YtanccoahpcfbnaaDoor
