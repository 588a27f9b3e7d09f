/-
  MarksLines of chapter 7, walked: it returns true for every list and line, and what lay in memory stays.
-/
import Derived.Test.YtgjhdjfjfmbejaaDoorMarkS
namespace Go.Proofs.YtgjhdjfjfmbejaaDoor
open Go.RowKit Go.Lib Go.Shelf
attribute [local go_sem] Oper.semAt_some

/-- Is a number among some lines? -/
def inL (line : Int) (xs : List (Fin 32)) : Bool := xs.any fun x => ((x.val : Nat) : Int) == line
theorem inL_take (line : Int) (xs : List (Fin 32)) (k : Nat) (x : Fin 32) (h : xs[k]? = some x) : inL line (xs.take (k + 1)) = (inL line (xs.take k) || (((x.val : Nat) : Int) == line)) := by
  obtain ⟨hk, rfl⟩ := List.getElem?_eq_some_iff.1 h
  unfold inL
  rw [List.take_succ_eq_append_getElem hk, List.any_append]
  simp
theorem inL_out (line : Int) (xs : List (Fin 32)) (h : line < 0 ∨ 32 ≤ line) : inL line xs = false := by
  unfold inL
  rw [List.any_eq_false]
  intro x _
  have := x.isLt
  simp
  omega
theorem inL_kept (z : Nat → Int) (l : Nat) (hl : l < 32) : inL (l : Int) (keptL z 32) = keptZ z l := by
  rw [← memB_kept z l hl]
  unfold inL memB
  congr 1
  funext x
  rw [Bool.eq_iff_iff]
  simp only [beq_iff_eq]
  omega
theorem kept_rise (z : Nat → Int) (k : Nat) (x y : Fin 32) (hx : (keptL z 32)[k]? = some x) (hy : (keptL z 32)[k + 1]? = some y) : x.val < y.val := by
  have hp : (keptL z 32).Pairwise (fun a b => a.val < b.val) := by
    unfold keptL
    refine List.Pairwise.filter _ ?_
    unfold seg
    rw [List.pairwise_map]
    refine List.Pairwise.imp_of_mem ?_ List.pairwise_lt_range
    intro a b ha hb hab
    rw [Nat.zero_add, Nat.zero_add, fin_val a (by simpa using ha), fin_val b (by simpa using hb)]
    exact hab
  obtain ⟨h1, rfl⟩ := List.getElem?_eq_some_iff.1 hx
  obtain ⟨h2, rfl⟩ := List.getElem?_eq_some_iff.1 hy
  exact List.pairwise_iff_getElem.1 hp k (k + 1) h1 h2 (by omega)
theorem IL.at {w : World} {p : Option Addr} {n cap : Nat} {ps : List Int} (h : IL w (.slice p n cap) ps) {i : Nat} {x : Int} (hx : ps[i]? = some x) : ∃ b o, p = some ⟨b, o, none⟩ ∧ w.cell? ⟨b, o + i, none⟩ = some (.int .i64 x) := by
  obtain ⟨p', cap', e, _, hc⟩ := h
  simp at e
  obtain ⟨rfl, _, _⟩ := e
  exact hc i x hx
theorem intsL_get (xs : List (Fin 32)) (k : Nat) (x : Fin 32) (h : xs[k]? = some x) : (intsL xs)[k]? = some ((x.val : Nat) : Int) := by simp [intsL, h]
theorem lines_none (v : Value) (w : World) (h : NoTab w v) :
    Calls Tryd.prog 19 #[v] w fun e w' => e = .returned (.slice none 0 0) ∧ Below w.heap.size w w' := by
  rcases h with ⟨p, n, cap, rfl, hn⟩ | ⟨b, o, cap, z, rfl, hT, hr⟩
  · exact lines_len p n cap w hn
  · exact lines_not b o cap z w hT hr
theorem count_none (v : Value) (w : World) (h : NoTab w v) :
    Calls Tryd.prog 18 #[v] w fun e w' => e = .returned (.int .i64 0) ∧ Below w.heap.size w w' := by
  rcases h with ⟨p, n, cap, rfl, hn⟩ | ⟨b, o, cap, z, rfl, hT, hr⟩
  · exact count_len p n cap w hn
  · exact count_not b o cap z w hT hr
/-- marks.Kept of a table, at whatever line. -/
def keptI (z : Nat → Int) (line : Int) : Bool := decide (0 ≤ line ∧ line < 32) && keptZ z line.toNat
theorem Kept_i (line : Int) (b o cap : Nat) (z : Nat → Int) (w : World) (hT : Tab w b o z) (hr : rightT z = true) :
    Calls Tryd.prog 16 #[.slice (some ⟨b, o, none⟩) 32 cap, .int .i64 line] w fun e w' => e = .returned (.bool (keptI z line)) ∧ Below w.heap.size w w' := by
  by_cases h0 : line < 0
  · rw [show keptI z line = false by simp [keptI]; omega]
    exact Kept_neg line b o cap z w hT hr h0
  · by_cases h1 : 32 ≤ line
    · rw [show keptI z line = false by simp [keptI]; omega]
      exact Kept_big line b o cap z w hT hr h1
    · obtain ⟨l, rfl⟩ := Int.eq_ofNat_of_zero_le (show 0 ≤ line by omega)
      rw [show keptI z (l : Int) = keptZ z l by simp [keptI]; omega]
      exact Kept_in l b o cap z w hT hr (by omega)
theorem inL_keptI (z : Nat → Int) (line : Int) : inL line (keptL z 32) = keptI z line := by
  by_cases h : 0 ≤ line ∧ line < 32
  · obtain ⟨l, rfl⟩ := Int.eq_ofNat_of_zero_le h.1
    rw [inL_kept z l (by omega)]
    simp [keptI]
    omega
  · rw [inL_out line _ (by omega)]
    simp [keptI]
    omega

set_option maxRecDepth 100000 in
set_option maxHeartbeats 2000000 in
theorem mlines_no (V : VA) (p : Option Addr) (n cap : Nat) (line : Int) (w : World) (hV : MV w V) (hn : n ≤ cap) (hm : cap ≤ maxLen) (hA : NoTab w (.slice p (min n 34) cap)) :
    Calls Tryd.prog 6 #[.slice p n cap, .int .i64 line] w fun e w' => e = .returned (.bool true) ∧ Below w.heap.size w w' := by
  have HA := Lib.hid hA
  have HV := Lib.hid hV
  clear hA hV
  go_enter Tryd.func6, Tryd.ntmps6
  go_wp2_with (first
    | (go_at_call 10; ((with_reducible refine (shown7_any V _ HV.out).mono ?_)); rintro e w1 ⟨rfl, hb⟩; replace HA := Lib.hid (HA.out.below hb); have HB := Lib.hid hb; clear hb)
    | (go_at_call 11; ((with_reducible refine (cut_any p n cap _ hn hm).mono ?_)); rintro e w' ⟨rfl, rfl⟩)
    | (go_at_call 19; ((with_reducible refine (lines_none _ _ HA.out).mono ?_)); rintro e w2 ⟨rfl, hb⟩; replace HA := Lib.hid (HA.out.below hb); replace HB := Lib.hid (bstep HB.out hb); clear hb))
  refine wp_loop_rounds 1 ?_
  rw [rounds_succ]
  go_wp2_with (first
    | (go_at_call 16; ((with_reducible refine (Kept_none _ _ _ HA.out).mono ?_)); rintro e w3 ⟨rfl, hb⟩; replace HA := Lib.hid (HA.out.below hb); replace HB := Lib.hid (bstep HB.out hb); clear hb)
    | (go_at_call 18; ((with_reducible refine (count_none _ _ HA.out).mono ?_)); rintro e w4 ⟨rfl, hb⟩; replace HA := Lib.hid (HA.out.below hb); replace HB := Lib.hid (bstep HB.out hb); clear hb)
    | (go_at_call 14; ((with_reducible refine (right_none _ _ HA.out).mono ?_)); rintro e w5 ⟨rfl, hb⟩; replace HB := Lib.hid (bstep HB.out hb); clear hb))
  go_ret
  exact ⟨rfl, HB.out⟩

set_option maxRecDepth 100000 in
set_option maxHeartbeats 4000000 in
theorem mlines_yes (V : VA) (b o cap : Nat) (z : Nat → Int) (line : Int) (w : World) (hV : MV w V) (hn : 32 ≤ cap) (hm : cap ≤ maxLen) (hT : Tab w b o z) (hr : rightT z = true) :
    Calls Tryd.prog 6 #[.slice (some ⟨b, o, none⟩) 32 cap, .int .i64 line] w fun e w' => e = .returned (.bool true) ∧ Below w.heap.size w w' := by
  have HT := Lib.hid hT
  have HR := Lib.hid hr
  have HV := Lib.hid hV
  clear hT hr hV
  have hlz := keptL_len z 32
  have HRI := Lib.hid (kept_rise z)
  have HIN := Lib.hid (inL_keptI z line)
  have HLI := Lib.hid (lines_list b o cap z)
  have HCO := Lib.hid (count_yes b o cap z)
  generalize keptL z 32 = xs at hlz HRI HIN HLI HCO
  go_enter Tryd.func6, Tryd.ntmps6
  go_wp2_with (first
    | (go_at_call 10; ((with_reducible refine (shown7_any V _ HV.out).mono ?_)); rintro e w1 ⟨rfl, hb⟩; replace HT := Lib.hid (HT.out.below hb); have HB := Lib.hid hb; clear hb)
    | (go_at_call 11; ((with_reducible refine (cut_32 _ cap _ hn hm).mono ?_)); rintro e w' ⟨rfl, rfl⟩)
    | (go_at_call 19; ((with_reducible refine (HLI.out _ HT.out HR.out).mono ?_)); rintro e w2 ⟨q, c, rfl, hI, hb⟩; have HI := Lib.hid hI; replace HT := Lib.hid (HT.out.below hb); replace HB := Lib.hid (bstep HB.out hb); clear hb hI))
  clear HLI HV
  go_loopw [7, 8] (fun t i wr => ∃ k : Nat, k ≤ xs.length ∧ i = .int .i64 (k : Int) ∧ t = .bool (inL line (xs.take k)) ∧ Below w2.heap.size w2 wr) (fun _ i _ => 64 - (intOf i).toNat)
  case atStart => exact ⟨0, by omega, rfl, rfl, Below.refl _ _⟩
  case round =>
    obtain ⟨k, hk, rfl, rfl, hB⟩ := hrel
    have HBr := Lib.hid hB
    clear hB
    by_cases hlt : k < xs.length
    · have hx : xs[k]? = some xs[k] := List.getElem?_eq_getElem hlt
      have hcs := inL_take line xs k _ hx
      obtain ⟨b', o', rfl, c0⟩ := (HI.out.below HBr.out).at (intsL_get xs k _ hx)
      have hprev : 0 < k → ∃ y : Fin 32, wr.cell? ⟨b', o' + (k - 1), none⟩ = some (.int .i64 ((y.val : Nat) : Int)) ∧ y.val < (xs[k]).val := by
        intro h0
        have hx' : xs[k - 1]? = some xs[k - 1] := List.getElem?_eq_getElem (by omega)
        obtain ⟨b2, o2, e2, d1⟩ := (HI.out.below HBr.out).at (intsL_get xs (k - 1) _ hx')
        simp at e2
        obtain ⟨rfl, rfl⟩ := e2
        exact ⟨_, d1, HRI.out (k - 1) _ _ hx' (by rw [show k - 1 + 1 = k by omega]; exact hx)⟩
      generalize xs[k] = x at hcs c0 hprev hx
      have hx32 : x.val < 32 := x.isLt
      have i0 : (0 : Int) ≤ (k : Int) := by omega
      have i1 : (k : Int) < (xs.length : Int) := by omega
      have t2 : decide (((x.val : Nat) : Int) < 0) = false := by simp
      have t3 : decide ((31 : Int) < ((x.val : Nat) : Int)) = false := by simp; omega
      have t3n : decide (31 < x.val) = false := by simp; omega
      clear hx
      have fin : ∀ (t' : Bool) (m : Nat), t' = inL line (xs.take (k + 1)) → ∃ k' : Nat, k' ≤ xs.length ∧ Value.int .i64 ((k : Int) + 1) = .int .i64 (k' : Int) ∧ Value.bool t' = .bool (inL line (xs.take k')) ∧ Below w2.heap.size w2 (wr.drewN m) :=
        fun t' m h => ⟨k + 1, by omega, by go_num, by rw [h], below_drewN HBr.out m⟩
      have FIN := Lib.hid fin
      have HCS := Lib.hid hcs
      clear fin hcs
      cases hin : inL line (xs.take k) with
      | true =>
        rw [hin] at HCS
        clear hin
        by_cases h0 : 0 < k
        · obtain ⟨y, d1, hy⟩ := hprev h0
          have t4 : decide ((0 : Int) < (k : Int)) = true := by simp; omega
          have t4n : decide (0 < k) = true := by simp; omega
          have t5 : decide (((x.val : Nat) : Int) ≤ ((y.val : Nat) : Int)) = false := by simp; omega
          have t5n : decide (x.val ≤ y.val) = false := by simp; omega
          have j1 : (0 : Int) ≤ (k : Int) - 1 := by omega
          have j2 : (k : Int) - 1 < (xs.length : Int) := by omega
          have j5 : (1 : Int) ≤ (k : Int) := by omega
          have j6 : 1 ≤ k := by omega
          have j7 : (k : Int) < (xs.length : Int) + 1 := by omega
          have j8 : k - 1 < xs.length := by omega
          clear hprev
          go_wp2
          have j3 : IntKind.i64.wrap ((k : Int) - 1) = (k : Int) - 1 := IntWalk.i64_in _ (by omega)
          have j4 : ((k : Int) - 1).toNat = k - 1 := by omega
          go_quiet (fail)
          clear j3 j4
          go_wp2
          go_roundw
          case rel => exact FIN.out true _ (by rw [HCS.out]; rfl)
          case measure => simp [intOf]; omega
        · have t4 : decide ((0 : Int) < (k : Int)) = false := by simp; omega
          have t4n : decide (0 < k) = false := by simp; omega
          clear hprev h0
          go_wp2
          go_quiet (fail)
          go_wp2
          go_roundw
          case rel => exact FIN.out true _ (by rw [HCS.out]; rfl)
          case measure => simp [intOf]; omega
      | false =>
        rw [hin] at HCS
        clear hin
        cases heq : (((x.val : Nat) : Int) == line) with
        | true =>
          rw [heq] at HCS
          by_cases h0 : 0 < k
          · obtain ⟨y, d1, hy⟩ := hprev h0
            have t4 : decide ((0 : Int) < (k : Int)) = true := by simp; omega
            have t4n : decide (0 < k) = true := by simp; omega
            have t5 : decide (((x.val : Nat) : Int) ≤ ((y.val : Nat) : Int)) = false := by simp; omega
            have t5n : decide (x.val ≤ y.val) = false := by simp; omega
            have j1 : (0 : Int) ≤ (k : Int) - 1 := by omega
            have j2 : (k : Int) - 1 < (xs.length : Int) := by omega
            have j5 : (1 : Int) ≤ (k : Int) := by omega
            have j6 : 1 ≤ k := by omega
            have j7 : (k : Int) < (xs.length : Int) + 1 := by omega
            have j8 : k - 1 < xs.length := by omega
            clear hprev
            go_wp2
            have j3 : IntKind.i64.wrap ((k : Int) - 1) = (k : Int) - 1 := IntWalk.i64_in _ (by omega)
            have j4 : ((k : Int) - 1).toNat = k - 1 := by omega
            go_quiet (fail)
            clear j3 j4
            go_wp2
            go_roundw
            case rel => exact FIN.out true _ (by rw [HCS.out]; rfl)
            case measure => simp [intOf]; omega
          · have t4 : decide ((0 : Int) < (k : Int)) = false := by simp; omega
            have t4n : decide (0 < k) = false := by simp; omega
            clear hprev h0
            go_wp2
            go_quiet (fail)
            go_wp2
            go_roundw
            case rel => exact FIN.out true _ (by rw [HCS.out]; rfl)
            case measure => simp [intOf]; omega
        | false =>
          rw [heq] at HCS
          by_cases h0 : 0 < k
          · obtain ⟨y, d1, hy⟩ := hprev h0
            have t4 : decide ((0 : Int) < (k : Int)) = true := by simp; omega
            have t4n : decide (0 < k) = true := by simp; omega
            have t5 : decide (((x.val : Nat) : Int) ≤ ((y.val : Nat) : Int)) = false := by simp; omega
            have t5n : decide (x.val ≤ y.val) = false := by simp; omega
            have j1 : (0 : Int) ≤ (k : Int) - 1 := by omega
            have j2 : (k : Int) - 1 < (xs.length : Int) := by omega
            have j5 : (1 : Int) ≤ (k : Int) := by omega
            have j6 : 1 ≤ k := by omega
            have j7 : (k : Int) < (xs.length : Int) + 1 := by omega
            have j8 : k - 1 < xs.length := by omega
            clear hprev
            go_wp2
            have j3 : IntKind.i64.wrap ((k : Int) - 1) = (k : Int) - 1 := IntWalk.i64_in _ (by omega)
            have j4 : ((k : Int) - 1).toNat = k - 1 := by omega
            go_quiet (fail)
            clear j3 j4
            go_wp2
            go_roundw
            case rel => exact FIN.out false _ (by rw [HCS.out]; rfl)
            case measure => simp [intOf]; omega
          · have t4 : decide ((0 : Int) < (k : Int)) = false := by simp; omega
            have t4n : decide (0 < k) = false := by simp; omega
            clear hprev h0
            go_wp2
            go_quiet (fail)
            go_wp2
            go_roundw
            case rel => exact FIN.out false _ (by rw [HCS.out]; rfl)
            case measure => simp [intOf]; omega
    · obtain rfl : k = xs.length := by omega
      rw [List.take_length, HIN.out]
      have HTr := Lib.hid (HT.out.below HBr.out)
      have HBB := Lib.hid (bstep HB.out HBr.out)
      generalize hkk : keptI z line = kk
      have HK := Lib.hid (fun w hT => Kept_i line b o cap z w hT HR.out)
      rw [hkk] at HK
      clear hkk HIN
      go_wp2_with (first
        | (go_at_call 16; ((with_reducible refine (HK.out _ HTr.out).mono ?_)); rintro e w3 ⟨rfl, hb⟩; replace HTr := Lib.hid (HTr.out.below hb); replace HBB := Lib.hid (bstep HBB.out hb); clear hb)
        | (go_at_call 18; ((with_reducible refine (HCO.out _ HTr.out HR.out).mono ?_)); rintro e w4 ⟨rfl, hb⟩; replace HTr := Lib.hid (HTr.out.below hb); replace HBB := Lib.hid (bstep HBB.out hb); clear hb)
        | (go_at_call 14; ((with_reducible refine (right_yes b o cap z _ HTr.out HR.out).mono ?_)); rintro e w5 ⟨rfl, hb⟩; replace HBB := Lib.hid (bstep HBB.out hb); clear hb))
      go_ret
      exact ⟨rfl, HBB.out⟩
theorem lawMarksLines (V : VA) (p : Option Addr) (n cap : Nat) (line : Int) (w : World) (hV : MV w V) (hn : n ≤ cap) (hm : cap ≤ maxLen) (hI : IC w p n) :
    Calls Tryd.prog 6 #[.slice p n cap, .int .i64 line] w fun e w' => e = .returned (.bool true) ∧ Below w.heap.size w w' := by
  rcases tabOr_of (cap := cap) hI with h | ⟨b, o, z, rfl, rfl, hT, hr⟩
  · exact mlines_no V p n cap line w hV hn hm h
  · exact mlines_yes V b o cap z line w hV hn hm hT hr
end Go.Proofs.YtgjhdjfjfmbejaaDoor
