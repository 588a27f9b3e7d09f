/-
  MarksTurns of chapter 7, walked: it returns true for every list and two extents, and what lay in memory stays.
-/
import Derived.Test.YtgjhdjfjfmbejaaDoorMarkO
namespace Go.Proofs.YtgjhdjfjfmbejaaDoor
open Go.RowKit Go.Lib Go.Shelf
attribute [local go_sem] Oper.semAt_some

/-- A contract for marks.Mark at one table and extent, whatever the world. -/
def MarkAt (V : VA) (o : Option (Nat → Int)) (a n : Int) (r : Option (Nat → Int)) (en : Int) : Prop := ∀ v w, MV w V → AR w v o → Calls Tryd.prog 12 #[v, .int .i64 a, .int .i64 n] w (Made w r en)
theorem MarkAt.call {V : VA} {o : Option (Nat → Int)} {a n : Int} {r : Option (Nat → Int)} {en : Int} (h : MarkAt V o a n r en) (v : Value) (w : World) (hV : MV w V) (hA : AR w v o) : Calls Tryd.prog 12 #[v, .int .i64 a, .int .i64 n] w (Made w r en) := h v w hV hA
theorem markAt_none (V : VA) (a n : Int) : MarkAt V none a n none 70 := fun v w hV h => markO_table V v a n w hV h
theorem markAt_bad (V : VA) (z : Nat → Int) (a n : Int) (hx : ¬ xr a n) : MarkAt V (some z) a n none 11 := fun v w hV h => markO_bad V v z a n w hV h hx
theorem markAt_good (V : VA) (z : Nat → Int) (a n : Int) (hx : xr a n) : MarkAt V (some z) a n (some (markZ z a n)) 0 := fun v w hV h => markO_good V v z a n w hV h hx

set_option maxRecDepth 100000 in
set_option maxHeartbeats 2000000 in
theorem turns_bad (V : VA) (p : Option Addr) (k cap : Nat) (a n b m : Int) (w : World) (hV : MV w V) (hn : k ≤ cap) (hm : cap ≤ maxLen) (o o1 o2 o3 o4 o5 : Option (Nat → Int)) (e1 e2 e3 e4 e5 : Int) (hA : AR w (.slice p (min k 34) cap) o)
    (m1 : MarkAt V o a n o1 e1) (m2 : MarkAt V o1 b m o2 e2) (m3 : MarkAt V o b m o3 e3) (m4 : MarkAt V o3 a n o4 e4) (m5 : MarkAt V o2 a n o5 e5) (q1 : (e1 != 0) = true ∨ (e1 != 0) = false ∧ (e3 != 0) = true) (q2 : (e2 != 0) = true) (q4 : (e4 != 0) = true) :
    Calls Tryd.prog 3 #[.slice p k cap, .int .i64 a, .int .i64 n, .int .i64 b, .int .i64 m] w fun e w' => e = .returned (.bool true) ∧ Below w.heap.size w w' := by
  have M1 := Lib.hid m1
  have M2 := Lib.hid m2
  have M3 := Lib.hid m3
  have M4 := Lib.hid m4
  have M5 := Lib.hid m5
  have HA := Lib.hid hA
  have HV := Lib.hid hV
  have HB := Lib.hid (Below.refl w.heap.size w)
  clear m1 m2 m3 m4 m5 hA hV
  rcases q1 with q1 | ⟨q1, q3⟩
  all_goals
    go_enter Tryd.func3, Tryd.ntmps3
    go_wp2_with (first
      | (go_at_call 10; ((with_reducible refine (shown7_any V _ HV.out).mono ?_)); rintro e w1 ⟨rfl, hb⟩; replace HA := Lib.hid (HA.out.below hb); replace HV := Lib.hid (HV.out.below hb); replace HB := Lib.hid (bstep HB.out hb); clear hb)
      | (go_at_call 11; ((with_reducible refine (cut_ar p k cap _ hn hm).mono ?_)); rintro e w' ⟨rfl, rfl⟩))
    ((with_reducible refine (M1.out.call _ _ HV.out HA.out).mono ?_))
    rintro e w2 ⟨u1, rfl, h1, _, hb⟩
    replace HA := Lib.hid (HA.out.below hb)
    replace HV := Lib.hid (HV.out.below hb)
    replace HB := Lib.hid (bstep HB.out hb)
    have A1 := Lib.hid h1
    clear hb h1
    go_wp2_with fail
    ((with_reducible refine (M2.out.call _ _ HV.out A1.out).mono ?_))
    rintro e w3 ⟨u2, rfl, h2, _, hb⟩
    replace HA := Lib.hid (HA.out.below hb)
    replace HV := Lib.hid (HV.out.below hb)
    replace HB := Lib.hid (bstep HB.out hb)
    have A2 := Lib.hid h2
    clear hb h2 A1
    go_wp2_with fail
    ((with_reducible refine (M3.out.call _ _ HV.out HA.out).mono ?_))
    rintro e w4 ⟨u3, rfl, h3, _, hb⟩
    replace HV := Lib.hid (HV.out.below hb)
    replace HB := Lib.hid (bstep HB.out hb)
    replace A2 := Lib.hid (A2.out.below hb)
    have A3 := Lib.hid h3
    clear hb h3
    go_wp2_with fail
    ((with_reducible refine (M4.out.call _ _ HV.out A3.out).mono ?_))
    rintro e w5 ⟨u4, rfl, _, _, hb⟩
    replace HV := Lib.hid (HV.out.below hb)
    replace HB := Lib.hid (bstep HB.out hb)
    replace A2 := Lib.hid (A2.out.below hb)
    clear hb
    go_wp2_with fail
    ((with_reducible refine (M5.out.call _ _ HV.out A2.out).mono ?_))
    rintro e w6 ⟨u5, rfl, _, _, hb⟩
    replace HB := Lib.hid (bstep HB.out hb)
    clear hb
    go_wp2
    go_ret
    exact ⟨rfl, HB.out⟩

set_option maxRecDepth 100000 in
set_option maxHeartbeats 2000000 in
theorem turns_good (V : VA) (p : Option Addr) (k cap : Nat) (a n b m : Int) (z : Nat → Int) (w : World) (hV : MV w V) (hn : k ≤ cap) (hm : cap ≤ maxLen) (hA : AR w (.slice p (min k 34) cap) (some z)) (x1 : xr a n) (x2 : xr b m) :
    Calls Tryd.prog 3 #[.slice p k cap, .int .i64 a, .int .i64 n, .int .i64 b, .int .i64 m] w fun e w' => e = .returned (.bool true) ∧ Below w.heap.size w w' := by
  have M1 := Lib.hid (markAt_good V z a n x1)
  have M2 := Lib.hid (markAt_good V (markZ z a n) b m x2)
  have M3 := Lib.hid (markAt_good V z b m x2)
  have M4 := Lib.hid (markAt_good V (markZ z b m) a n x1)
  have M5 := Lib.hid (markAt_good V (markZ (markZ z a n) b m) a n x1)
  have HA := Lib.hid hA
  have HV := Lib.hid hV
  have HB := Lib.hid (Below.refl w.heap.size w)
  clear hA hV x1 x2
  go_enter Tryd.func3, Tryd.ntmps3
  go_wp2_with (first
    | (go_at_call 10; ((with_reducible refine (shown7_any V _ HV.out).mono ?_)); rintro e w1 ⟨rfl, hb⟩; replace HA := Lib.hid (HA.out.below hb); replace HV := Lib.hid (HV.out.below hb); replace HB := Lib.hid (bstep HB.out hb); clear hb)
    | (go_at_call 11; ((with_reducible refine (cut_ar p k cap _ hn hm).mono ?_)); rintro e w' ⟨rfl, rfl⟩))
  ((with_reducible refine (M1.out.call _ _ HV.out HA.out).mono ?_))
  rintro e w2 ⟨u1, rfl, h1, _, hb⟩
  replace HA := Lib.hid (HA.out.below hb)
  replace HV := Lib.hid (HV.out.below hb)
  replace HB := Lib.hid (bstep HB.out hb)
  have A1 := Lib.hid h1
  clear hb h1
  go_wp2_with fail
  ((with_reducible refine (M2.out.call _ _ HV.out A1.out).mono ?_))
  rintro e w3 ⟨u2, rfl, h2, _, hb⟩
  replace HA := Lib.hid (HA.out.below hb)
  replace HV := Lib.hid (HV.out.below hb)
  replace HB := Lib.hid (bstep HB.out hb)
  have A2 := Lib.hid h2
  clear hb h2 A1
  go_wp2_with fail
  ((with_reducible refine (M3.out.call _ _ HV.out HA.out).mono ?_))
  rintro e w4 ⟨u3, rfl, h3, _, hb⟩
  replace HV := Lib.hid (HV.out.below hb)
  replace HB := Lib.hid (bstep HB.out hb)
  replace A2 := Lib.hid (A2.out.below hb)
  have A3 := Lib.hid h3
  clear hb h3
  go_wp2_with fail
  ((with_reducible refine (M4.out.call _ _ HV.out A3.out).mono ?_))
  rintro e w5 ⟨u4, rfl, h4, _, hb⟩
  replace HV := Lib.hid (HV.out.below hb)
  replace HB := Lib.hid (bstep HB.out hb)
  replace A2 := Lib.hid (A2.out.below hb)
  have A4 := Lib.hid h4
  clear hb h4
  go_wp2_with fail
  ((with_reducible refine (M5.out.call _ _ HV.out A2.out).mono ?_))
  rintro e w6 ⟨u5, rfl, h5, _, hb⟩
  replace HB := Lib.hid (bstep HB.out hb)
  replace A2 := Lib.hid (A2.out.below hb)
  replace A4 := Lib.hid (A4.out.below hb)
  have A5 := Lib.hid h5
  clear hb h5
  go_wp2_with fail
  ((with_reducible refine (ints_yes _ _ ((List.range 32).map (markZ (markZ z a n) b m)) _ (IL.ar A2.out (fun _ => rfl)) (IL.ar A4.out (fun i => (markZ_comm z a n b m i).symm))).mono ?_))
  rintro e w7 ⟨rfl, hb⟩
  replace HB := Lib.hid (bstep HB.out hb)
  replace A2 := Lib.hid (A2.out.below hb)
  replace A5 := Lib.hid (A5.out.below hb)
  clear hb
  go_wp2_with fail
  ((with_reducible refine (ints_yes _ _ ((List.range 32).map (markZ (markZ z a n) b m)) _ (IL.ar A2.out (fun _ => rfl)) (IL.ar A5.out (fun i => markZ_again z a n b m i))).mono ?_))
  rintro e w8 ⟨rfl, hb⟩
  replace HB := Lib.hid (bstep HB.out hb)
  clear hb
  go_wp2
  go_ret
  exact ⟨rfl, HB.out⟩

theorem lawMarksTurns (V : VA) (p : Option Addr) (k cap : Nat) (a n b m : Int) (w : World) (hV : MV w V) (hn : k ≤ cap) (hm : cap ≤ maxLen) (hI : IC w p k) :
    Calls Tryd.prog 3 #[.slice p k cap, .int .i64 a, .int .i64 n, .int .i64 b, .int .i64 m] w fun e w' => e = .returned (.bool true) ∧ Below w.heap.size w w' := by
  obtain ⟨o, hA⟩ := ar_of (cap := cap) hI
  cases o with
  | none => exact turns_bad V p k cap a n b m w hV hn hm none none none none none none 70 70 70 70 70 hA (markAt_none V a n) (markAt_none V b m) (markAt_none V b m) (markAt_none V a n) (markAt_none V a n) (.inl rfl) rfl rfl
  | some z =>
    by_cases x1 : xr a n
    · by_cases x2 : xr b m
      · exact turns_good V p k cap a n b m z w hV hn hm hA x1 x2
      · exact turns_bad V p k cap a n b m w hV hn hm (some z) (some (markZ z a n)) none none none none 0 11 11 70 70 hA (markAt_good V z a n x1) (markAt_bad V _ b m x2) (markAt_bad V z b m x2) (markAt_none V a n) (markAt_none V a n) (.inr ⟨rfl, rfl⟩) rfl rfl
    · by_cases x2 : xr b m
      · exact turns_bad V p k cap a n b m w hV hn hm (some z) none none (some (markZ z b m)) none none 11 70 0 11 70 hA (markAt_bad V z a n x1) (markAt_none V b m) (markAt_good V z b m x2) (markAt_bad V _ a n x1) (markAt_none V a n) (.inl rfl) rfl rfl
      · exact turns_bad V p k cap a n b m w hV hn hm (some z) none none none none none 11 70 11 70 70 hA (markAt_bad V z a n x1) (markAt_none V b m) (markAt_bad V z b m x2) (markAt_none V a n) (markAt_none V a n) (.inl rfl) rfl rfl
end Go.Proofs.YtgjhdjfjfmbejaaDoor
