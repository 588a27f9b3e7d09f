/-
  MarksMerges of chapter 7, walked: it returns true for every two lists, extent and line, and what lay in memory stays.
-/
import Derived.Test.YtgjhdjfjfmbejaaDoorMarkT
namespace Go.Proofs.YtgjhdjfjfmbejaaDoor
open Go.RowKit Go.Lib Go.Shelf
attribute [local go_sem] Oper.semAt_some

/-- A contract for marks.Merge at two tables, whatever the world. -/
def MergeAt (V : VA) (o q r : Option (Nat → Int)) (en : Int) : Prop := ∀ v u w, MV w V → AR w v o → AR w u q → Calls Tryd.prog 21 #[v, u] w (Made w r en)
theorem MergeAt.call {V : VA} {o q r : Option (Nat → Int)} {en : Int} (h : MergeAt V o q r en) (v u : Value) (w : World) (hV : MV w V) (hA : AR w v o) (hU : AR w u q) : Calls Tryd.prog 21 #[v, u] w (Made w r en) := h v u w hV hA hU
theorem mergeAt_no1 (V : VA) (q : Option (Nat → Int)) : MergeAt V none q none 70 := fun v u w hV h _ =>
  (Merge_no1 v u V w hV h).mono fun _ _ ⟨he, hb⟩ => ⟨_, he, AR.nil _, fun _ => rfl, hb⟩
theorem mergeAt_no2 (V : VA) (z : Nat → Int) : MergeAt V (some z) none none 70 := fun v u w hV h k => by
  obtain ⟨b, o, cap, rfl, hT, hr⟩ := h
  exact (Merge_no2 b o cap z u V w hV hT hr k).mono fun _ _ ⟨he, hb⟩ => ⟨_, he, AR.nil _, fun _ => rfl, hb⟩
theorem mergeAt_yes (V : VA) (z y : Nat → Int) : MergeAt V (some z) (some y) (some (mergeZ z y)) 0 := fun v u w _ h k => by
  obtain ⟨b, o, cap, rfl, hT, hr⟩ := h
  obtain ⟨b', o', cap', rfl, hU, hq⟩ := k
  exact (Merge_yes b o cap b' o' cap' z y w hT hr hU hq).mono fun _ _ ⟨g, he, hG, hb⟩ => ⟨_, he, ⟨g, 0, 32, rfl, hG, mergeZ_right hr hq⟩, (fun h => by cases h), hb⟩
theorem keptI_merge {z y : Nat → Int} (hz : rightT z = true) (hy : rightT y = true) (line : Int) : keptI (mergeZ z y) line = (keptI z line || keptI y line) := by
  unfold keptI
  by_cases h : 0 ≤ line ∧ line < 32
  · rw [kept_merge hz hy _ (by omega)]
    simp only [h, and_self, decide_true, Bool.true_and]
  · simp only [decide_eq_false h, Bool.false_and, Bool.or_false]

set_option maxRecDepth 100000 in
set_option maxHeartbeats 2000000 in
theorem merges_none (V : VA) (p : Option Addr) (k cap : Nat) (p' : Option Addr) (k' cap' : Nat) (a n line : Int) (w : World) (hV : MV w V) (hn : k ≤ cap) (hm : cap ≤ maxLen) (hn' : k' ≤ cap') (hm' : cap' ≤ maxLen) (o q : Option (Nat → Int))
    (hA : AR w (.slice p (min k 34) cap) o) (hU : AR w (.slice p' (min k' 34) cap') q) (m1 : MergeAt V o q none 70) (m2 : MergeAt V q o none 70) :
    Calls Tryd.prog 8 #[.slice p k cap, .slice p' k' cap', .int .i64 a, .int .i64 n, .int .i64 line] w fun e w' => e = .returned (.bool true) ∧ Below w.heap.size w w' := by
  have M1 := Lib.hid m1
  have M2 := Lib.hid m2
  have HA := Lib.hid hA
  have HU := Lib.hid hU
  have HV := Lib.hid hV
  have HB := Lib.hid (Below.refl w.heap.size w)
  clear m1 m2 hA hU hV
  go_enter Tryd.func8, Tryd.ntmps8
  go_wp2_with (go_at_call 10; ((with_reducible refine (shown7_any V _ HV.out).mono ?_)); rintro e w1 ⟨rfl, hb⟩; replace HA := Lib.hid (HA.out.below hb); replace HU := Lib.hid (HU.out.below hb); replace HV := Lib.hid (HV.out.below hb); replace HB := Lib.hid (bstep HB.out hb); clear hb)
  ((with_reducible refine (cut_ar p k cap _ hn hm).mono ?_))
  rintro e w' ⟨rfl, rfl⟩
  go_wp2_with fail
  ((with_reducible refine (cut_ar p' k' cap' _ hn' hm').mono ?_))
  rintro e w' ⟨rfl, rfl⟩
  go_wp2_with fail
  ((with_reducible refine (M1.out.call _ _ _ HV.out HA.out HU.out).mono ?_))
  rintro e w2 ⟨u1, rfl, _, hu, hb⟩
  obtain rfl := hu rfl
  replace HA := Lib.hid (HA.out.below hb)
  replace HU := Lib.hid (HU.out.below hb)
  replace HV := Lib.hid (HV.out.below hb)
  replace HB := Lib.hid (bstep HB.out hb)
  clear hb hu
  go_wp2_with fail
  ((with_reducible refine (M2.out.call _ _ _ HV.out HU.out HA.out).mono ?_))
  rintro e w3 ⟨u2, rfl, _, _, hb⟩
  replace HB := Lib.hid (bstep HB.out hb)
  clear hb
  go_wp2
  go_ret
  exact ⟨rfl, HB.out⟩

set_option maxRecDepth 100000 in
set_option maxHeartbeats 2000000 in
theorem merges_bad (V : VA) (p : Option Addr) (k cap : Nat) (p' : Option Addr) (k' cap' : Nat) (a n line : Int) (w : World) (hV : MV w V) (hn : k ≤ cap) (hm : cap ≤ maxLen) (hn' : k' ≤ cap') (hm' : cap' ≤ maxLen) (z y : Nat → Int)
    (hA : AR w (.slice p (min k 34) cap) (some z)) (hU : AR w (.slice p' (min k' 34) cap') (some y)) (hx : ¬ xr a n) :
    Calls Tryd.prog 8 #[.slice p k cap, .slice p' k' cap', .int .i64 a, .int .i64 n, .int .i64 line] w fun e w' => e = .returned (.bool true) ∧ Below w.heap.size w w' := by
  have M1 := Lib.hid (mergeAt_yes V z y)
  have M2 := Lib.hid (mergeAt_yes V y z)
  have M3 := Lib.hid (markAt_bad V z a n hx)
  have M4 := Lib.hid (markAt_bad V (mergeZ z y) a n hx)
  have HA := Lib.hid hA
  have HU := Lib.hid hU
  have HV := Lib.hid hV
  have HB := Lib.hid (Below.refl w.heap.size w)
  clear hA hU hV hx
  go_enter Tryd.func8, Tryd.ntmps8
  go_wp2_with (go_at_call 10; ((with_reducible refine (shown7_any V _ HV.out).mono ?_)); rintro e w1 ⟨rfl, hb⟩; replace HA := Lib.hid (HA.out.below hb); replace HU := Lib.hid (HU.out.below hb); replace HV := Lib.hid (HV.out.below hb); replace HB := Lib.hid (bstep HB.out hb); clear hb)
  ((with_reducible refine (cut_ar p k cap _ hn hm).mono ?_))
  rintro e w' ⟨rfl, rfl⟩
  go_wp2_with fail
  ((with_reducible refine (cut_ar p' k' cap' _ hn' hm').mono ?_))
  rintro e w' ⟨rfl, rfl⟩
  go_wp2_with fail
  ((with_reducible refine (M1.out.call _ _ _ HV.out HA.out HU.out).mono ?_))
  rintro e w2 ⟨u1, rfl, h1, _, hb⟩
  replace HA := Lib.hid (HA.out.below hb)
  replace HU := Lib.hid (HU.out.below hb)
  replace HV := Lib.hid (HV.out.below hb)
  replace HB := Lib.hid (bstep HB.out hb)
  have A1 := Lib.hid h1
  clear hb h1
  go_wp2_with fail
  ((with_reducible refine (M2.out.call _ _ _ HV.out HU.out HA.out).mono ?_))
  rintro e w3 ⟨u2, rfl, h2, _, hb⟩
  replace HA := Lib.hid (HA.out.below hb)
  replace A1 := Lib.hid (A1.out.below hb)
  replace HV := Lib.hid (HV.out.below hb)
  replace HB := Lib.hid (bstep HB.out hb)
  have A2 := Lib.hid h2
  clear hb h2
  go_wp2_with fail
  ((with_reducible refine (M3.out.call _ _ HV.out HA.out).mono ?_))
  rintro e w4 ⟨u3, rfl, _, _, hb⟩
  replace A1 := Lib.hid (A1.out.below hb)
  replace A2 := Lib.hid (A2.out.below hb)
  replace HV := Lib.hid (HV.out.below hb)
  replace HB := Lib.hid (bstep HB.out hb)
  clear hb
  go_wp2_with fail
  ((with_reducible refine (M4.out.call _ _ HV.out A1.out).mono ?_))
  rintro e w5 ⟨u4, rfl, _, _, hb⟩
  replace A1 := Lib.hid (A1.out.below hb)
  replace A2 := Lib.hid (A2.out.below hb)
  replace HB := Lib.hid (bstep HB.out hb)
  clear hb
  go_wp2_with fail
  ((with_reducible refine (ints_yes _ _ ((List.range 32).map (mergeZ z y)) _ (IL.ar A1.out (fun _ => rfl)) (IL.ar A2.out (fun i => merge_comm y z i))).mono ?_))
  rintro e w6 ⟨rfl, hb⟩
  replace HB := Lib.hid (bstep HB.out hb)
  clear hb
  go_wp2
  go_ret
  exact ⟨rfl, HB.out⟩

set_option maxRecDepth 100000 in
set_option maxHeartbeats 2000000 in
theorem merges_good (V : VA) (p : Option Addr) (k cap : Nat) (p' : Option Addr) (k' cap' : Nat) (a n line : Int) (w : World) (hV : MV w V) (hn : k ≤ cap) (hm : cap ≤ maxLen) (hn' : k' ≤ cap') (hm' : cap' ≤ maxLen) (z y : Nat → Int)
    (hA : AR w (.slice p (min k 34) cap) (some z)) (hU : AR w (.slice p' (min k' 34) cap') (some y)) (hx : xr a n) :
    Calls Tryd.prog 8 #[.slice p k cap, .slice p' k' cap', .int .i64 a, .int .i64 n, .int .i64 line] w fun e w' => e = .returned (.bool true) ∧ Below w.heap.size w w' := by
  have M1 := Lib.hid (mergeAt_yes V z y)
  have M2 := Lib.hid (mergeAt_yes V y z)
  have M3 := Lib.hid (markAt_good V z a n hx)
  have M4 := Lib.hid (markAt_good V (mergeZ z y) a n hx)
  have M5 := Lib.hid (mergeAt_yes V (markZ z a n) y)
  have hz : rightT z = true := by obtain ⟨_, _, _, _, _, hr⟩ := hA; exact hr
  have hy : rightT y = true := by obtain ⟨_, _, _, _, _, hr⟩ := hU; exact hr
  have hk := keptI_merge hz hy line
  have K1 := Lib.hid (fun v w h => kept_ar v (some (mergeZ z y)) line w h)
  have K2 := Lib.hid (fun v w h => kept_ar v (some z) line w h)
  have K3 := Lib.hid (fun v w h => kept_ar v (some y) line w h)
  simp only [keptO] at K1 K2 K3
  rw [hk] at K1
  have HA := Lib.hid hA
  have HU := Lib.hid hU
  have HV := Lib.hid hV
  have HB := Lib.hid (Below.refl w.heap.size w)
  clear hA hU hV hx hk hz hy
  generalize keptI y line = cy at K1 K3
  cases hc : keptI z line
  all_goals
    rw [hc] at K1 K2
    simp only [Bool.true_or, Bool.false_or] at K1
    clear hc
    go_enter Tryd.func8, Tryd.ntmps8
    go_wp2_with (go_at_call 10; ((with_reducible refine (shown7_any V _ HV.out).mono ?_)); rintro e w1 ⟨rfl, hb⟩; replace HA := Lib.hid (HA.out.below hb); replace HU := Lib.hid (HU.out.below hb); replace HV := Lib.hid (HV.out.below hb); replace HB := Lib.hid (bstep HB.out hb); clear hb)
    ((with_reducible refine (cut_ar p k cap _ hn hm).mono ?_))
    rintro e w' ⟨rfl, rfl⟩
    go_wp2_with fail
    ((with_reducible refine (cut_ar p' k' cap' _ hn' hm').mono ?_))
    rintro e w' ⟨rfl, rfl⟩
    go_wp2_with fail
    ((with_reducible refine (M1.out.call _ _ _ HV.out HA.out HU.out).mono ?_))
    rintro e w2 ⟨u1, rfl, h1, _, hb⟩
    replace HA := Lib.hid (HA.out.below hb)
    replace HU := Lib.hid (HU.out.below hb)
    replace HV := Lib.hid (HV.out.below hb)
    replace HB := Lib.hid (bstep HB.out hb)
    have A1 := Lib.hid h1
    clear hb h1
    go_wp2_with fail
    ((with_reducible refine (M2.out.call _ _ _ HV.out HU.out HA.out).mono ?_))
    rintro e w3 ⟨u2, rfl, h2, _, hb⟩
    replace HA := Lib.hid (HA.out.below hb)
    replace HU := Lib.hid (HU.out.below hb)
    replace A1 := Lib.hid (A1.out.below hb)
    replace HV := Lib.hid (HV.out.below hb)
    replace HB := Lib.hid (bstep HB.out hb)
    have A2 := Lib.hid h2
    clear hb h2
    go_wp2_with fail
    ((with_reducible refine (M3.out.call _ _ HV.out HA.out).mono ?_))
    rintro e w4 ⟨u3, rfl, h3, _, hb⟩
    replace HA := Lib.hid (HA.out.below hb)
    replace HU := Lib.hid (HU.out.below hb)
    replace A1 := Lib.hid (A1.out.below hb)
    replace A2 := Lib.hid (A2.out.below hb)
    replace HV := Lib.hid (HV.out.below hb)
    replace HB := Lib.hid (bstep HB.out hb)
    have A3 := Lib.hid h3
    clear hb h3
    go_wp2_with fail
    ((with_reducible refine (M4.out.call _ _ HV.out A1.out).mono ?_))
    rintro e w5 ⟨u4, rfl, h4, _, hb⟩
    replace HA := Lib.hid (HA.out.below hb)
    replace HU := Lib.hid (HU.out.below hb)
    replace A1 := Lib.hid (A1.out.below hb)
    replace A2 := Lib.hid (A2.out.below hb)
    replace A3 := Lib.hid (A3.out.below hb)
    replace HV := Lib.hid (HV.out.below hb)
    replace HB := Lib.hid (bstep HB.out hb)
    have A4 := Lib.hid h4
    clear hb h4
    go_wp2_with fail
    ((with_reducible refine (M5.out.call _ _ _ HV.out A3.out HU.out).mono ?_))
    rintro e w6 ⟨u5, rfl, h5, _, hb⟩
    replace HA := Lib.hid (HA.out.below hb)
    replace HU := Lib.hid (HU.out.below hb)
    replace A1 := Lib.hid (A1.out.below hb)
    replace A2 := Lib.hid (A2.out.below hb)
    replace A4 := Lib.hid (A4.out.below hb)
    replace HB := Lib.hid (bstep HB.out hb)
    have A5 := Lib.hid h5
    clear hb h5
    go_wp2_with fail
    ((with_reducible refine (ints_yes _ _ ((List.range 32).map (mergeZ z y)) _ (IL.ar A1.out (fun _ => rfl)) (IL.ar A2.out (fun i => merge_comm y z i))).mono ?_))
    rintro e w7 ⟨rfl, hb⟩
    replace HA := Lib.hid (HA.out.below hb)
    replace HU := Lib.hid (HU.out.below hb)
    replace A1 := Lib.hid (A1.out.below hb)
    replace A4 := Lib.hid (A4.out.below hb)
    replace A5 := Lib.hid (A5.out.below hb)
    replace HB := Lib.hid (bstep HB.out hb)
    clear hb
    go_wp2_with fail
    ((with_reducible refine (K1.out _ _ A1.out).mono ?_))
    rintro e w8 ⟨rfl, hb⟩
    replace HA := Lib.hid (HA.out.below hb)
    replace HU := Lib.hid (HU.out.below hb)
    replace A4 := Lib.hid (A4.out.below hb)
    replace A5 := Lib.hid (A5.out.below hb)
    replace HB := Lib.hid (bstep HB.out hb)
    clear hb
    go_wp2_with fail
    ((with_reducible refine (K2.out _ _ HA.out).mono ?_))
    rintro e w9 ⟨rfl, hb⟩
    replace HU := Lib.hid (HU.out.below hb)
    replace A4 := Lib.hid (A4.out.below hb)
    replace A5 := Lib.hid (A5.out.below hb)
    replace HB := Lib.hid (bstep HB.out hb)
    clear hb
    go_wp2_with (go_at_call 16; ((with_reducible refine (K3.out _ _ HU.out).mono ?_)); rintro e w10 ⟨rfl, hb⟩; replace A4 := Lib.hid (A4.out.below hb); replace A5 := Lib.hid (A5.out.below hb); replace HB := Lib.hid (bstep HB.out hb); clear hb)
    ((with_reducible refine (ints_yes _ _ ((List.range 32).map (markZ (mergeZ z y) a n)) _ (IL.ar A5.out (fun i => merge_mark z y a n i)) (IL.ar A4.out (fun _ => rfl))).mono ?_))
    rintro e w11 ⟨rfl, hb⟩
    replace HB := Lib.hid (bstep HB.out hb)
    clear hb
    go_wp2
    go_ret
    refine ⟨?_, HB.out⟩
    first | rfl | simp

theorem lawMarksMerges (V : VA) (p : Option Addr) (k cap : Nat) (p' : Option Addr) (k' cap' : Nat) (a n line : Int) (w : World) (hV : MV w V) (hn : k ≤ cap) (hm : cap ≤ maxLen) (hI : IC w p k) (hn' : k' ≤ cap') (hm' : cap' ≤ maxLen) (hI' : IC w p' k') :
    Calls Tryd.prog 8 #[.slice p k cap, .slice p' k' cap', .int .i64 a, .int .i64 n, .int .i64 line] w fun e w' => e = .returned (.bool true) ∧ Below w.heap.size w w' := by
  obtain ⟨o, hA⟩ := ar_of (cap := cap) hI
  obtain ⟨q, hU⟩ := ar_of (cap := cap') hI'
  cases o with
  | none =>
    cases q with
    | none => exact merges_none V p k cap p' k' cap' a n line w hV hn hm hn' hm' none none hA hU (mergeAt_no1 V _) (mergeAt_no1 V _)
    | some y => exact merges_none V p k cap p' k' cap' a n line w hV hn hm hn' hm' none (some y) hA hU (mergeAt_no1 V _) (mergeAt_no2 V y)
  | some z =>
    cases q with
    | none => exact merges_none V p k cap p' k' cap' a n line w hV hn hm hn' hm' (some z) none hA hU (mergeAt_no2 V z) (mergeAt_no1 V _)
    | some y =>
      by_cases hx : xr a n
      · exact merges_good V p k cap p' k' cap' a n line w hV hn hm hn' hm' z y hA hU hx
      · exact merges_bad V p k cap p' k' cap' a n line w hV hn hm hn' hm' z y hA hU hx
end Go.Proofs.YtgjhdjfjfmbejaaDoor
