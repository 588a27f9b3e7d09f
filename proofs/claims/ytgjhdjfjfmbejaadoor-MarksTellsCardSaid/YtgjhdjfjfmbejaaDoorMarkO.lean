/-
  marks.Mark, marks.Kept, marks.Right over what a list is: a table, or none.
-/
import Derived.Test.YtgjhdjfjfmbejaaDoorMarkS
import Derived.Test.YtgjhdjfjfmbejaaDoorMarkLn
namespace Go.Proofs.YtgjhdjfjfmbejaaDoor
open Go.RowKit Go.Lib Go.Shelf

/-- What a list in memory is: a table that holds these numbers, or none. -/
def AR (w : World) (v : Value) : Option (Nat → Int) → Prop
  | none => NoTab w v
  | some z => ∃ b o cap, v = .slice (some ⟨b, o, none⟩) 32 cap ∧ Tab w b o z ∧ rightT z = true
theorem AR.below {w w' : World} {v : Value} {o : Option (Nat → Int)} (h : AR w v o) (hb : Below w.heap.size w w') : AR w' v o := by
  cases o with
  | none => exact NoTab.below h hb
  | some z => obtain ⟨b, o, cap, e, hT, hr⟩ := h; exact ⟨b, o, cap, e, hT.below hb, hr⟩
theorem AR.nil (w : World) : AR w (.slice none 0 0) none := notab_nil' w
theorem ar_of {w : World} {p : Option Addr} {n cap : Nat} (h : IC w p n) : ∃ o, AR w (.slice p (min n 34) cap) o := by
  rcases tabOr_of (cap := cap) h with h | ⟨b, o, z, rfl, rfl, hT, hr⟩
  · exact ⟨none, h⟩
  · exact ⟨some z, b, o, cap, rfl, hT, hr⟩
/-- Made of a list: no list with an error's number, or a table. -/
def Made (w : World) (o : Option (Nat → Int)) (en : Int) (e : Ending) (w' : World) : Prop := ∃ u, e = .returned (.tuple #[u, .int .i64 en]) ∧ AR w' u o ∧ (o = none → u = .slice none 0 0) ∧ Below w.heap.size w w'
theorem markO_table (V : VA) (v : Value) (a n : Int) (w : World) (hV : MV w V) (h : AR w v none) : Calls Tryd.prog 12 #[v, .int .i64 a, .int .i64 n] w (Made w none 70) :=
  (Mark_table v V a n w hV h).mono fun _ _ ⟨he, hb⟩ => ⟨_, he, AR.nil _, fun _ => rfl, hb⟩
theorem markO_bad (V : VA) (v : Value) (z : Nat → Int) (a n : Int) (w : World) (hV : MV w V) (h : AR w v (some z)) (hx : ¬ xr a n) : Calls Tryd.prog 12 #[v, .int .i64 a, .int .i64 n] w (Made w none 11) := by
  obtain ⟨b, o, cap, rfl, hT, hr⟩ := h
  exact (Mark_bad b o cap z V a n w hV hT hr hx).mono fun _ _ ⟨he, hb⟩ => ⟨_, he, AR.nil _, fun _ => rfl, hb⟩
theorem markO_good (V : VA) (v : Value) (z : Nat → Int) (a n : Int) (w : World) (hV : MV w V) (h : AR w v (some z)) (hx : xr a n) : Calls Tryd.prog 12 #[v, .int .i64 a, .int .i64 n] w (Made w (some (markZ z a n)) 0) := by
  obtain ⟨b, o, cap, rfl, hT, hr⟩ := h
  exact (Mark_good b o cap z V a n w hV hT hr hx).mono fun _ _ ⟨g, he, hG, hb⟩ => ⟨_, he, ⟨g, 0, 32, rfl, hG, markZ_right a n hr⟩, (fun h => by cases h), hb⟩
theorem right_ar (v : Value) (o : Option (Nat → Int)) (w : World) (h : AR w v o) : Calls Tryd.prog 14 #[v] w fun e w' => e = .returned (.bool o.isSome) ∧ Below w.heap.size w w' := by
  cases o with
  | none => exact right_none v w h
  | some z => obtain ⟨b, o, cap, rfl, hT, hr⟩ := h; exact right_yes b o cap z w hT hr
/-- Is a line kept? -/
def keptO (o : Option (Nat → Int)) (line : Int) : Bool := match o with
  | none => false
  | some z => keptI z line
theorem kept_ar (v : Value) (o : Option (Nat → Int)) (line : Int) (w : World) (h : AR w v o) : Calls Tryd.prog 16 #[v, .int .i64 line] w fun e w' => e = .returned (.bool (keptO o line)) ∧ Below w.heap.size w w' := by
  cases o with
  | none => exact Kept_none v line w h
  | some z => obtain ⟨b, o, cap, rfl, hT, hr⟩ := h; exact Kept_i line b o cap z w hT hr
theorem IL.tab {w : World} {b o cap : Nat} {z : Nat → Int} (h : Tab w b o z) : IL w (.slice (some ⟨b, o, none⟩) 32 cap) ((List.range 32).map z) := by
  refine ⟨some ⟨b, o, none⟩, cap, by simp, by simp, fun i x hx => ⟨b, o, rfl, ?_⟩⟩
  simp only [List.getElem?_map, Option.map_eq_some_iff] at hx
  obtain ⟨j, hj, rfl⟩ := hx
  obtain ⟨hlt, rfl⟩ := List.getElem?_eq_some_iff.1 hj
  simp at hlt
  rw [List.getElem_range]
  exact h i hlt
theorem IL.ar {w : World} {v : Value} {z y : Nat → Int} (h : AR w v (some z)) (he : ∀ i, z i = y i) : IL w v ((List.range 32).map y) := by
  obtain ⟨b, o, cap, rfl, hT, _⟩ := h
  obtain rfl : z = y := funext he
  exact IL.tab hT
theorem cut_ar (p : Option Addr) (n cap : Nat) (w : World) (h : n ≤ cap) (hm : cap ≤ maxLen) :
    Calls Tryd.prog 11 #[.slice p n cap] w fun e w' => e = .returned (.slice p (min n 34) cap) ∧ w = w' := cut_any p n cap w h hm
end Go.Proofs.YtgjhdjfjfmbejaaDoor
