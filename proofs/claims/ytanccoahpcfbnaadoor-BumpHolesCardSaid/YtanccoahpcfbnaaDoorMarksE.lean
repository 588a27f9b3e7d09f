/-
  marks.Lines of no table, marks.Count, marks.Kept, for every list and line; what lay in memory stays.
-/
import Derived.Test.YtanccoahpcfbnaaDoorMarksD
namespace Go.Proofs.YtanccoahpcfbnaaDoor
open Go.RowKit Go.Lib

theorem lines_len (p : Option Addr) (n cap : Nat) (w : World) (hn : n ≠ 32) :
    Calls Tryd.prog 58 #[.slice p n cap] w fun e w' => e = .returned (.slice none 0 0) ∧ Below w.heap.size w w' := by
  have HN := Lib.hid hn
  clear hn
  go_enter Tryd.func58, Tryd.ntmps58
  go_wp2_with (first
    | (go_at_call 41; ((with_reducible refine (right_len p n cap _ HN.out).mono ?_)); rintro e w1 ⟨rfl, hb1⟩; have HB1 := Lib.hid hb1; clear hb1))
  go_ret
  exact ⟨rfl, HB1.out⟩

theorem lines_not (b o cap : Nat) (z : Nat → Int) (w : World) (hT : Tab w b o z) (hr : rightT z = false) :
    Calls Tryd.prog 58 #[.slice (some ⟨b, o, none⟩) 32 cap] w fun e w' => e = .returned (.slice none 0 0) ∧ Below w.heap.size w w' := by
  have HT := Lib.hid hT
  clear hT
  have HR := Lib.hid hr
  clear hr
  go_enter Tryd.func58, Tryd.ntmps58
  go_wp2_with (first
    | (go_at_call 41; ((with_reducible refine (right_no b o cap z _ HT.out HR.out).mono ?_)); rintro e w1 ⟨rfl, hb1⟩; have HB1 := Lib.hid hb1; clear hb1))
  go_ret
  exact ⟨rfl, HB1.out⟩

theorem Kept_len (i : Int) (p : Option Addr) (n cap : Nat) (w : World) (hn : n ≠ 32) :
    Calls Tryd.prog 22 #[.slice p n cap, .int .i64 i] w fun e w' => e = .returned (.bool false) ∧ Below w.heap.size w w' := by
  have HN := Lib.hid hn
  clear hn
  go_enter Tryd.func22, Tryd.ntmps22
  go_wp2_with (first
    | (go_at_call 41; ((with_reducible refine (right_len p n cap _ HN.out).mono ?_)); rintro e w1 ⟨rfl, hb1⟩; have HB1 := Lib.hid hb1; clear hb1))
  go_ret
  exact ⟨rfl, HB1.out⟩

theorem Kept_not (i : Int) (b o cap : Nat) (z : Nat → Int) (w : World) (hT : Tab w b o z) (hr : rightT z = false) :
    Calls Tryd.prog 22 #[.slice (some ⟨b, o, none⟩) 32 cap, .int .i64 i] w fun e w' => e = .returned (.bool false) ∧ Below w.heap.size w w' := by
  have HT := Lib.hid hT
  clear hT
  have HR := Lib.hid hr
  clear hr
  go_enter Tryd.func22, Tryd.ntmps22
  go_wp2_with (first
    | (go_at_call 41; ((with_reducible refine (right_no b o cap z _ HT.out HR.out).mono ?_)); rintro e w1 ⟨rfl, hb1⟩; have HB1 := Lib.hid hb1; clear hb1))
  go_ret
  exact ⟨rfl, HB1.out⟩

theorem Kept_neg (i : Int) (b o cap : Nat) (z : Nat → Int) (w : World) (hT : Tab w b o z) (hr : rightT z = true) (hi : i < 0) :
    Calls Tryd.prog 22 #[.slice (some ⟨b, o, none⟩) 32 cap, .int .i64 i] w fun e w' => e = .returned (.bool false) ∧ Below w.heap.size w w' := by
  have HT := Lib.hid hT
  clear hT
  have HR := Lib.hid hr
  clear hr
  have hd : decide (0 ≤ i) = false := by simpa using hi
  go_enter Tryd.func22, Tryd.ntmps22
  go_wp2_with (first
    | (go_at_call 41; ((with_reducible refine (right_yes b o cap z _ HT.out HR.out).mono ?_)); rintro e w1 ⟨rfl, hb1⟩; have HB1 := Lib.hid hb1; clear hb1))
  go_ret
  exact ⟨rfl, HB1.out⟩

theorem Kept_big (i : Int) (b o cap : Nat) (z : Nat → Int) (w : World) (hT : Tab w b o z) (hr : rightT z = true) (hi : 32 ≤ i) :
    Calls Tryd.prog 22 #[.slice (some ⟨b, o, none⟩) 32 cap, .int .i64 i] w fun e w' => e = .returned (.bool false) ∧ Below w.heap.size w w' := by
  have HT := Lib.hid hT
  clear hT
  have HR := Lib.hid hr
  clear hr
  have hd : decide (i < 32) = false := by simpa using hi
  have hd0 : decide (0 ≤ i) = true := by simp; omega
  go_enter Tryd.func22, Tryd.ntmps22
  go_wp2_with (first
    | (go_at_call 41; ((with_reducible refine (right_yes b o cap z _ HT.out HR.out).mono ?_)); rintro e w1 ⟨rfl, hb1⟩; have HB1 := Lib.hid hb1; clear hb1))
  go_ret
  exact ⟨rfl, HB1.out⟩

theorem Kept_in (i : Nat) (b o cap : Nat) (z : Nat → Int) (w : World) (hT : Tab w b o z) (hr : rightT z = true) (hi : i < 32) :
    Calls Tryd.prog 22 #[.slice (some ⟨b, o, none⟩) 32 cap, .int .i64 (i : Int)] w fun e w' => e = .returned (.bool (keptZ z i)) ∧ Below w.heap.size w w' := by
  have HT := Lib.hid hT
  clear hT
  have HR := Lib.hid hr
  clear hr
  go_enter Tryd.func22, Tryd.ntmps22
  go_wp2_with (first
    | (go_at_call 41; ((with_reducible refine (right_yes b o cap z _ HT.out HR.out).mono ?_)); rintro e w1 ⟨rfl, hb1⟩; have HB1 := Lib.hid hb1; clear hb1)
    | (go_at_call 42; ((with_reducible refine (kept_any b o cap z _ (HT.out.below HB1.out) i hi).mono ?_)); rintro e w' ⟨rfl, rfl⟩))
  go_ret
  exact ⟨rfl, HB1.out⟩

end Go.Proofs.YtanccoahpcfbnaaDoor
