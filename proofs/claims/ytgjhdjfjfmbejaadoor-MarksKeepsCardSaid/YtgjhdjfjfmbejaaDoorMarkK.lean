/-
  MarksKeeps of chapter 7, walked: it returns true for every list, extent and line, and what lay in memory stays.
-/
import Derived.Test.YtgjhdjfjfmbejaaDoorMarkT
namespace Go.Proofs.YtgjhdjfjfmbejaaDoor
open Go.RowKit Go.Lib Go.Shelf
attribute [local go_sem] Oper.semAt_some

set_option maxRecDepth 100000 in
set_option maxHeartbeats 2000000 in
theorem keeps_bad (V : VA) (p : Option Addr) (k cap : Nat) (a n line : Int) (w : World) (hV : MV w V) (hn : k ≤ cap) (hm : cap ≤ maxLen) (o : Option (Nat → Int)) (en : Int) (hA : AR w (.slice p (min k 34) cap) o) (m1 : MarkAt V o a n none en) (q : (en != 0) = true) (q2 : (en == 70) = !o.isSome) :
    Calls Tryd.prog 4 #[.slice p k cap, .int .i64 a, .int .i64 n, .int .i64 line] w fun e w' => e = .returned (.bool true) ∧ Below w.heap.size w w' := by
  have M1 := Lib.hid m1
  have HA := Lib.hid hA
  have HV := Lib.hid hV
  have HB := Lib.hid (Below.refl w.heap.size w)
  have HR := Lib.hid (right_ar (.slice p (min k 34) cap) o)
  generalize o.isSome = s at q2 HR
  clear m1 hA hV
  go_enter Tryd.func4, Tryd.ntmps4
  go_wp2_with (first
    | (go_at_call 10; ((with_reducible refine (shown7_any V _ HV.out).mono ?_)); rintro e w1 ⟨rfl, hb⟩; replace HA := Lib.hid (HA.out.below hb); replace HV := Lib.hid (HV.out.below hb); replace HB := Lib.hid (bstep HB.out hb); clear hb)
    | (go_at_call 11; ((with_reducible refine (cut_ar p k cap _ hn hm).mono ?_)); rintro e w' ⟨rfl, rfl⟩))
  ((with_reducible refine (M1.out.call _ _ HV.out HA.out).mono ?_))
  rintro e w2 ⟨u1, rfl, _, hu, hb⟩
  obtain rfl := hu rfl
  replace HA := Lib.hid (HA.out.below hb)
  replace HB := Lib.hid (bstep HB.out hb)
  clear hb hu
  go_wp2_with (go_at_call 14; ((with_reducible refine (HR.out _ HA.out).mono ?_)); rintro e w3 ⟨rfl, hb⟩; replace HB := Lib.hid (bstep HB.out hb); clear hb)
  go_ret
  refine ⟨?_, HB.out⟩
  simp
set_option maxRecDepth 100000 in
set_option maxHeartbeats 2000000 in
theorem keeps_good (V : VA) (p : Option Addr) (k cap : Nat) (a n line : Int) (z : Nat → Int) (w : World) (hV : MV w V) (hn : k ≤ cap) (hm : cap ≤ maxLen) (hA : AR w (.slice p (min k 34) cap) (some z)) (x1 : xr a n) :
    Calls Tryd.prog 4 #[.slice p k cap, .int .i64 a, .int .i64 n, .int .i64 line] w fun e w' => e = .returned (.bool true) ∧ Below w.heap.size w w' := by
  have M1 := Lib.hid (markAt_good V z a n x1)
  have hr : rightT z = true := by obtain ⟨_, _, _, _, _, hr⟩ := hA; exact hr
  have HKM := Lib.hid (fun i h1 h2 => kept_marked hr x1 i h1 h2)
  have hmono : keptI z line = true → keptI (markZ z a n) line = true := fun h => by
    simp only [keptI, Bool.and_eq_true, decide_eq_true_eq] at h ⊢
    refine ⟨h.1, kept_mono hr (markZ_right a n hr) (fun i _ => by simp only [markZ]; omega) _ (by omega) h.2⟩
  have HMO := Lib.hid hmono
  have HA := Lib.hid hA
  have HV := Lib.hid hV
  have HB := Lib.hid (Below.refl w.heap.size w)
  obtain ⟨y1, y2, y3, y4, y5, y6⟩ := x1
  obtain ⟨f, hf⟩ : ∃ f : Nat, a / 128 = (f : Int) := ⟨(a / 128).toNat, by omega⟩
  obtain ⟨l, hl⟩ : ∃ l : Nat, (a + n - 1) / 128 = (l : Int) := ⟨((a + n - 1) / 128).toNat, by omega⟩
  have hl32 : l < 32 := by omega
  have hfl : f ≤ l := by omega
  rw [hf, hl] at HKM
  have HF := Lib.hid hf
  have HL := Lib.hid hl
  clear hA hV hr hmono hf hl y3
  go_enter Tryd.func4, Tryd.ntmps4
  go_wp2_with (first
    | (go_at_call 10; ((with_reducible refine (shown7_any V _ HV.out).mono ?_)); rintro e w1 ⟨rfl, hb⟩; replace HA := Lib.hid (HA.out.below hb); replace HV := Lib.hid (HV.out.below hb); replace HB := Lib.hid (bstep HB.out hb); clear hb)
    | (go_at_call 11; ((with_reducible refine (cut_ar p k cap _ hn hm).mono ?_)); rintro e w' ⟨rfl, rfl⟩))
  ((with_reducible refine (M1.out.call _ _ HV.out HA.out).mono ?_))
  rintro e w2 ⟨u1, rfl, h1, _, hb⟩
  replace HA := Lib.hid (HA.out.below hb)
  replace HV := Lib.hid (HV.out.below hb)
  replace HB := Lib.hid (bstep HB.out hb)
  have A1 := Lib.hid h1
  clear hb h1
  go_wp2_with fail
  ((with_reducible refine (Ad.span_yes a n _ _ _ _ HV.out.av y4 y1 (by omega) (by omega)).mono ?_))
  rintro e w3 ⟨rfl, hb⟩
  replace HA := Lib.hid (HA.out.below hb)
  replace HB := Lib.hid (bstep HB.out hb)
  replace A1 := Lib.hid (A1.out.below hb)
  rw [HF.out, HL.out]
  clear hb
  go_wp2_with fail
  go_loopw [15] (fun i wr => ∃ j : Nat, f ≤ j ∧ j ≤ l + 1 ∧ i = .int .i64 (j : Int) ∧ Below w3.heap.size w3 wr) (fun i _ => 64 - (intOf i).toNat)
  case atStart => exact ⟨f, Nat.le_refl _, by omega, rfl, Below.refl _ _⟩
  case round =>
    obtain ⟨j, hj1, hj2, rfl, hB⟩ := hrel
    have HBr := Lib.hid hB
    clear hB
    by_cases hlt : j ≤ l
    · have hk := HKM.out j (by omega) (by omega)
      have HK := Lib.hid (kept_ar u1 (some (markZ z a n)) (j : Int))
      rw [show keptO (some (markZ z a n)) (j : Int) = true by simp only [keptO, keptI, Int.toNat_natCast, hk.2, Bool.and_true, decide_eq_true_eq]; omega] at HK
      clear hk
      go_wp2_with (go_at_call 16; ((with_reducible refine (HK.out _ (A1.out.below HBr.out)).mono ?_)); rintro e w4 ⟨rfl, hb⟩; have HB4 := Lib.hid (bstep HBr.out hb); clear hb)
      go_roundw
      case rel => exact ⟨j + 1, by omega, by omega, by go_num, HB4.out⟩
      case measure => simp [intOf]; omega
    · have HR := Lib.hid (right_ar u1 (some (markZ z a n)))
      have HK1 := Lib.hid (kept_ar (.slice p (min k 34) cap) (some z) line)
      have HK2 := Lib.hid (kept_ar u1 (some (markZ z a n)) line)
      rw [show keptO (some z) line = keptI z line from rfl] at HK1
      rw [show keptO (some (markZ z a n)) line = keptI (markZ z a n) line from rfl] at HK2
      rw [show (some (markZ z a n)).isSome = true from rfl] at HR
      have hd : decide ((j : Int) ≤ (l : Int)) = false := by simp; omega
      have hdn : decide (j ≤ l) = false := by simp; omega
      cases hc : keptI z line with
      | true =>
        rw [hc] at HK1
        rw [HMO.out hc] at HK2
        clear hc HMO HKM hlt
        go_wp2_with (go_at_call 14; ((with_reducible refine (HR.out _ (A1.out.below HBr.out)).mono ?_)); rintro e w4 ⟨rfl, hb⟩; have HB4 := Lib.hid (bstep HBr.out hb); clear hb)
        ((with_reducible refine (HK1.out _ (HA.out.below HB4.out)).mono ?_))
        rintro e w5 ⟨rfl, hb⟩
        have HB5 := Lib.hid (bstep HB4.out hb)
        clear hb
        go_wp2_with fail
        ((with_reducible refine (HK2.out _ (A1.out.below HB5.out)).mono ?_))
        rintro e w6 ⟨rfl, hb⟩
        have HB6 := Lib.hid (bstep HB5.out hb)
        clear hb
        go_wp2
        go_ret
        exact ⟨rfl, bstep HB.out HB6.out⟩
      | false =>
        rw [hc] at HK1
        clear hc HMO HKM HK2 hlt
        go_wp2_with (go_at_call 14; ((with_reducible refine (HR.out _ (A1.out.below HBr.out)).mono ?_)); rintro e w4 ⟨rfl, hb⟩; have HB4 := Lib.hid (bstep HBr.out hb); clear hb)
        ((with_reducible refine (HK1.out _ (HA.out.below HB4.out)).mono ?_))
        rintro e w5 ⟨rfl, hb⟩
        have HB5 := Lib.hid (bstep HB4.out hb)
        clear hb
        go_wp2
        go_ret
        exact ⟨rfl, bstep HB.out HB5.out⟩
theorem lawMarksKeeps (V : VA) (p : Option Addr) (k cap : Nat) (a n line : Int) (w : World) (hV : MV w V) (hn : k ≤ cap) (hm : cap ≤ maxLen) (hI : IC w p k) :
    Calls Tryd.prog 4 #[.slice p k cap, .int .i64 a, .int .i64 n, .int .i64 line] w fun e w' => e = .returned (.bool true) ∧ Below w.heap.size w w' := by
  obtain ⟨o, hA⟩ := ar_of (cap := cap) hI
  cases o with
  | none => exact keeps_bad V p k cap a n line w hV hn hm none 70 hA (markAt_none V a n) rfl rfl
  | some z =>
    by_cases x1 : xr a n
    · exact keeps_good V p k cap a n line z w hV hn hm hA x1
    · exact keeps_bad V p k cap a n line w hV hn hm (some z) 11 hA (markAt_bad V z a n x1) rfl rfl
end Go.Proofs.YtgjhdjfjfmbejaaDoor
