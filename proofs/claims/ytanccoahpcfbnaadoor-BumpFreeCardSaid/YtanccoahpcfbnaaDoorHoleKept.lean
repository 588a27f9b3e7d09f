/-
  marks.Right and marks.Kept, by cases.
-/
import Derived.Test.YtanccoahpcfbnaaDoorHoleNx
namespace Go.Proofs.YtanccoahpcfbnaaDoor
open Go.RowKit Go.Lib Go.Shelf

theorem right_none (v : Value) (w : World) (h : NoTab w v) :
    Calls Tryd.prog 41 #[v] w fun e w' => e = .returned (.bool false) ∧ Below w.heap.size w w' := by
  rcases h with ⟨p, n, cap, rfl, hn⟩ | ⟨b, o, cap, z, rfl, hT, hr⟩
  · exact right_len p n cap w hn
  · exact right_no b o cap z w hT hr
theorem Kept_t (i : Nat) (b o cap : Nat) (z : Nat → Int) (w : World) (hT : Tab w b o z) (hr : rightT z = true) (hi : i < 32) (hk : keptZ z i = true) :
    Calls Tryd.prog 22 #[.slice (some ⟨b, o, none⟩) 32 cap, .int .i64 (i : Int)] w fun e w' => e = .returned (.bool true) ∧ Below w.heap.size w w' := by
  have := Kept_in i b o cap z w hT hr hi
  rwa [hk] at this
theorem Kept_f (i : Nat) (b o cap : Nat) (z : Nat → Int) (w : World) (hT : Tab w b o z) (hr : rightT z = true) (hi : i < 32) (hk : keptZ z i = false) :
    Calls Tryd.prog 22 #[.slice (some ⟨b, o, none⟩) 32 cap, .int .i64 (i : Int)] w fun e w' => e = .returned (.bool false) ∧ Below w.heap.size w w' := by
  have := Kept_in i b o cap z w hT hr hi
  rwa [hk] at this

theorem Kept_none (v : Value) (i : Int) (w : World) (h : NoTab w v) :
    Calls Tryd.prog 22 #[v, .int .i64 i] w fun e w' => e = .returned (.bool false) ∧ Below w.heap.size w w' := by
  rcases h with ⟨p, n, cap, rfl, hn⟩ | ⟨b, o, cap, z, rfl, hT, hr⟩
  · exact Kept_len i p n cap w hn
  · exact Kept_not i b o cap z w hT hr
end Go.Proofs.YtanccoahpcfbnaaDoor
