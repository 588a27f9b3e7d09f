/-
  HoleSums of chapter 8, walked: it returns true for every list, and what lay in memory stays.
-/
import Derived.Test.YtgjhdjfjfmbejaaHoleKept
import Derived.Test.YtgjhdjfjfmbejaaHoleSumPlain
namespace Go.Proofs.Ytgjhdjfjfmbejaa
open Go.RowKit Go.Lib Go.Shelf
attribute [local go_sem] Oper.semAt_some

theorem fits_at (b o cap : Nat) (z : Nat → Int) (n : Int) (x : Nat × Nat) (w : World) (hT : Tab w b o z) (hr : rightT z = true) (hx : fitO (keptZ z) n = some x) :
    Calls Try.prog 14 #[.slice (some ⟨b, o, none⟩) 32 cap, .int .i64 n] w fun e w' => e = .returned (.tuple #[.agg #[.int .i64 (x.1 : Int), .int .i64 (x.2 : Int)], .bool true]) ∧ Below w.heap.size w w' := by
  have := fits_yes b o cap z n w hT hr
  rwa [hx] at this
theorem fits_off (b o cap : Nat) (z : Nat → Int) (n : Int) (w : World) (hT : Tab w b o z) (hr : rightT z = true) (hx : fitO (keptZ z) n = none) :
    Calls Try.prog 14 #[.slice (some ⟨b, o, none⟩) 32 cap, .int .i64 n] w fun e w' => e = .returned (.tuple #[.agg #[.int .i64 0, .int .i64 0], .bool false]) ∧ Below w.heap.size w w' := by
  have := fits_yes b o cap z n w hT hr
  rwa [hx] at this

set_option maxRecDepth 100000 in
set_option maxHeartbeats 2000000 in
theorem sums_no (p : Option Addr) (n cap : Nat) (w : World) (hn : n ≤ cap) (hm : cap ≤ maxLen) (hA : NoTab w (.slice p (min n 34) cap)) :
    Calls Try.prog 5 #[.slice p n cap] w fun e w' => e = .returned (.bool true) ∧ Below w.heap.size w w' := by
  have HA := Lib.hid hA
  clear hA
  go_enter Try.func5, Try.ntmps5
  go_wp2_with (first
    | (go_at_call 8; ((with_reducible refine (shown_any _).mono ?_)); rintro e w1 ⟨rfl, hb⟩; replace HA := Lib.hid (HA.out.below hb); have HB := Lib.hid hb; clear hb)
    | (go_at_call 9; ((with_reducible refine (cut_any p n cap _ hn hm).mono ?_)); rintro e w' ⟨rfl, rfl⟩)
    | (go_at_call 16; ((with_reducible refine (lengths_no _ _ HA.out).mono ?_)); rintro e w2 ⟨rfl, hb⟩; replace HA := Lib.hid (HA.out.below hb); replace HB := Lib.hid (bstep HB.out hb); clear hb)
    | (go_at_call 19; ((with_reducible refine (room_no _ _ HA.out).mono ?_)); rintro e w2 ⟨rfl, hb⟩; replace HA := Lib.hid (HA.out.below hb); replace HB := Lib.hid (bstep HB.out hb); clear hb)
    | (go_at_call 21; ((with_reducible refine (longest_no _ _ HA.out).mono ?_)); rintro e w2 ⟨rfl, hb⟩; replace HA := Lib.hid (HA.out.below hb); replace HB := Lib.hid (bstep HB.out hb); clear hb))
  go_ret
  exact ⟨rfl, HB.out⟩

set_option maxRecDepth 100000 in
set_option maxHeartbeats 4000000 in
theorem sums_yes (b o cap : Nat) (z : Nat → Int) (w : World) (hn : 32 ≤ cap) (hm : cap ≤ maxLen) (hT : Tab w b o z) (hr : rightT z = true) :
    Calls Try.prog 5 #[.slice (some ⟨b, o, none⟩) 32 cap] w fun e w' => e = .returned (.bool true) ∧ Below w.heap.size w w' := by
  have HT := Lib.hid hT
  have HR := Lib.hid hr
  clear hT hr
  have hlz := holesZ_len (keptZ z) 32 0 (by omega)
  have hbd := holesZ_bounds (keptZ z) 32 0 (by omega)
  have HSUM := Lib.hid (sumTo_all _ hbd)
  have HMOST := Lib.hid (most_max _ hbd)
  have HZERO := Lib.hid (cntH_zero _ hbd)
  have HCOUNT := Lib.hid (room_count z)
  have HMORE := Lib.hid (fit_more (keptZ z))
  have HFIT := Lib.hid (fit_most (keptZ z))
  have HROOM := Lib.hid (room_yes b o cap z)
  have HLONG := Lib.hid (longest_yes b o cap z)
  have HLEN := Lib.hid (lengths_yes b o cap z)
  clear hbd
  generalize hps : holesZ (keptZ z) 0 = ps at hlz HSUM HMOST HZERO HCOUNT HMORE HFIT HROOM HLONG HLEN
  have HLE := Lib.hid (sumTo_le ps (by omega))
  clear hps
  go_enter Try.func5, Try.ntmps5
  go_wp2_with (first
    | (go_at_call 8; ((with_reducible refine (shown_any _).mono ?_)); rintro e w1 ⟨rfl, hb⟩; replace HT := Lib.hid (HT.out.below hb); have HB := Lib.hid hb; clear hb)
    | (go_at_call 9; ((with_reducible refine (cut_32 _ cap _ hn hm).mono ?_)); rintro e w' ⟨rfl, rfl⟩)
    | (go_at_call 16; ((with_reducible refine (HLEN.out _ HT.out HR.out).mono ?_)); rintro e w2 ⟨g, rfl, hG, hb⟩; have HG := Lib.hid hG; replace HT := Lib.hid (HT.out.below hb); replace HB := Lib.hid (bstep HB.out hb); clear hb hG))
  go_loopw [6, 7, 8] (fun s t i wr => ∃ m : Nat, m ≤ 32 ∧ s = .int .i64 (sumTo ps m : Int) ∧ t = .int .i64 (mostTo ps m : Int) ∧ i = .int .i64 ((m : Int) + 1) ∧ wr = w2) (fun _ _ i _ => 64 - (intOf i).toNat)
  case atStart => exact ⟨0, by omega, rfl, rfl, rfl, rfl⟩
  case round =>
    obtain ⟨m, hm32, rfl, rfl, rfl, rfl⟩ := hrel
    by_cases hlt : m < 32
    · have cc := HG.out.cell (ncells_get (cntH ps) (m + 1) (by omega))
      have hcl := cntH_len ps (m + 1)
      have hs1 := HLE.out m hm32
      have e1 : sumTo ps (m + 1) = sumTo ps m + (m + 1) * cntH ps (m + 1) := rfl
      have e2 : mostTo ps (m + 1) = if 0 < cntH ps (m + 1) then m + 1 else mostTo ps m := rfl
      have hp3 : (m + 1) * cntH ps (m + 1) ≤ 32 * 32 := Nat.mul_le_mul (by omega) (by omega)
      have E1 := Lib.hid e1
      have E2 := Lib.hid e2
      clear e1 e2
      have i0 : (0 : Int) ≤ (m : Int) + 1 := by omega
      have i1 : (m : Int) + 1 < 33 := by omega
      generalize sumTo ps m = s at hs1 E1 ⊢
      generalize mostTo ps m = t at E2 ⊢
      generalize cntH ps (m + 1) = c at cc hcl hp3 E1 E2
      have hmul : ((m : Int) + 1) * (c : Int) = (((m + 1) * c : Nat) : Int) := by rw [Int.natCast_mul]; rfl
      have hA : (0 : Int) ≤ ((m : Int) + 1) * (c : Int) := by rw [hmul]; omega
      have hB : ((m : Int) + 1) * (c : Int) ≤ 1024 := by rw [hmul]; omega
      have HMUL := Lib.hid hmul
      clear hmul hp3
      by_cases hc : 0 < c
      · rw [if_pos hc] at E2
        go_wp2
        go_roundw
        case rel => exact ⟨m + 1, by omega, congrArg (Value.int .i64) (by rw [E1.out, Int.natCast_add, ← HMUL.out]), congrArg (Value.int .i64) (by rw [E2.out]; rfl), by go_num, trivial⟩
        case measure => simp [intOf]; omega
      · rw [if_neg hc] at E2
        have d1 : decide ((0 : Int) < (c : Int)) = false := by simp; omega
        have d2 : decide (0 < c) = false := by simp; omega
        clear hc
        go_wp2
        go_roundw
        case rel => exact ⟨m + 1, by omega, congrArg (Value.int .i64) (by rw [E1.out, Int.natCast_add, ← HMUL.out]), congrArg (Value.int .i64) (by rw [E2.out]), by go_num, trivial⟩
        case measure => simp [intOf]; omega
    · obtain rfl : m = 32 := by omega
      rw [HSUM.out, HMOST.out]
      have cz := HG.out.cell (ncells_get (cntH ps) 0 (by omega))
      rw [HZERO.out] at cz
      have HCZ := Lib.hid cz
      have hle := HLE.out 32 (by omega)
      rw [HSUM.out] at hle
      have hmx : maxH ps ≤ 32 := by rw [← HMOST.out]; exact (mostTo_spec ps 32).1
      have HCNT := Lib.hid (count_yes b o cap z)
      clear HSUM HMOST HZERO HLE HG HLEN cz hlt
      generalize sumH ps = S at *
      generalize maxH ps = M at *
      generalize (keptL z 32).length = N at *
      have hN : N ≤ 32 := by have := HCOUNT.out; omega
      have e1 : ((S : Int) == 32 - (N : Int)) = true := by have := HCOUNT.out; simp; omega
      clear HCOUNT
      by_cases h0 : 0 < M
      · obtain ⟨x, hx, hx1, hx2, hx3⟩ := HFIT.out h0
        have e2 : decide ((0 : Int) < (M : Int)) = true := by simp; omega
        have e2n : decide (0 < M) = true := by simp; omega
        have e3 : (((x.2 : Int) - (x.1 : Int)) == (M : Int)) = true := by simp; omega
        have HX := Lib.hid hx
        clear hx hx1 HFIT
        go_wp2_with fail
        ((with_reducible refine (fits_at b o cap z _ x _ HT.out HR.out HX.out).mono ?_))
        rintro e w3 ⟨rfl, hb⟩
        replace HT := Lib.hid (HT.out.below hb)
        replace HB := Lib.hid (bstep HB.out hb)
        replace HCZ := Lib.hid (cell_below HCZ.out hb)
        clear hb
        go_wp2_with fail
        have hbA := (Below.refl _ w3).alloc (Nat.le_refl _) (.cells #[.int .i64 (x.1 : Int), .int .i64 (x.2 : Int)] 30)
        have HX3 := Lib.hid (Blk.new w3 #[.int .i64 (x.1 : Int), .int .i64 (x.2 : Int)] 30)
        replace HT := Lib.hid (HT.out.below hbA)
        replace HB := Lib.hid (bstep HB.out hbA)
        replace HCZ := Lib.hid (cell_below HCZ.out hbA)
        clear hbA
        generalize w3.alloc (.cells #[.int .i64 (x.1 : Int), .int .i64 (x.2 : Int)] 30) = W3 at HX3 HT HB HCZ ⊢
        ((with_reducible refine (fits_off b o cap z _ _ HT.out HR.out HMORE.out).mono ?_))
        rintro e w4 ⟨rfl, hb⟩
        have hbA := (Below.refl _ w4).alloc (Nat.le_refl _) (.cells #[.int .i64 0, .int .i64 0] 30)
        replace HT := Lib.hid ((HT.out.below hb).below hbA)
        replace HB := Lib.hid (bstep (bstep HB.out hb) hbA)
        replace HCZ := Lib.hid (cell_below (cell_below HCZ.out hb) hbA)
        replace HX3 := Lib.hid ((HX3.out.below' hb).below' hbA)
        clear hb hbA HMORE
        have cz : (w4.alloc (.cells #[.int .i64 0, .int .i64 0] 30)).cell? ⟨g, 0, none⟩ = some (.int .i64 0) := HCZ.out
        go_wp2_with (first
          | (go_at_call 19; ((with_reducible refine (HROOM.out _ HT.out HR.out).mono ?_)); rintro e w5 ⟨rfl, hb⟩; replace HT := Lib.hid (HT.out.below hb); replace HB := Lib.hid (bstep HB.out hb); replace HX3 := Lib.hid (HX3.out.below' hb); clear hb)
          | (go_at_call 24; ((with_reducible refine (HCNT.out _ HT.out HR.out).mono ?_)); rintro e w6 ⟨rfl, hb⟩; replace HT := Lib.hid (HT.out.below hb); replace HB := Lib.hid (bstep HB.out hb); replace HX3 := Lib.hid (HX3.out.below' hb); clear hb)
          | (go_at_call 21; ((with_reducible refine (HLONG.out _ HT.out HR.out).mono ?_)); rintro e w7 ⟨rfl, hb⟩; replace HT := Lib.hid (HT.out.below hb); replace HB := Lib.hid (bstep HB.out hb); have bX := HX3.out.below' hb; have d0 := bX.cell (k := 0) rfl; have d1 := bX.cell (k := 1) rfl; clear hb bX))
        go_ret
        exact ⟨rfl, HB.out⟩
      · obtain rfl : M = 0 := by omega
        clear h0 HFIT
        have HX := Lib.hid (fit_zero (keptZ z))
        rw [show ((0 : Nat) : Int) = 0 from rfl] at HMORE HLONG ⊢
        rw [show (0 : Int) + 1 = 1 from rfl] at HMORE
        go_wp2_with fail
        ((with_reducible refine (fits_off b o cap z _ _ HT.out HR.out HX.out).mono ?_))
        rintro e w3 ⟨rfl, hb⟩
        replace HT := Lib.hid (HT.out.below hb)
        replace HB := Lib.hid (bstep HB.out hb)
        replace HCZ := Lib.hid (cell_below HCZ.out hb)
        clear hb
        go_wp2_with fail
        have hbA := (Below.refl _ w3).alloc (Nat.le_refl _) (.cells #[.int .i64 0, .int .i64 0] 30)
        have HX3 := Lib.hid (Blk.new w3 #[.int .i64 0, .int .i64 0] 30)
        replace HT := Lib.hid (HT.out.below hbA)
        replace HB := Lib.hid (bstep HB.out hbA)
        replace HCZ := Lib.hid (cell_below HCZ.out hbA)
        clear hbA
        generalize w3.alloc (.cells #[.int .i64 0, .int .i64 0] 30) = W3 at HX3 HT HB HCZ ⊢
        ((with_reducible refine (fits_off b o cap z _ _ HT.out HR.out HMORE.out).mono ?_))
        rintro e w4 ⟨rfl, hb⟩
        have hbA := (Below.refl _ w4).alloc (Nat.le_refl _) (.cells #[.int .i64 0, .int .i64 0] 30)
        replace HT := Lib.hid ((HT.out.below hb).below hbA)
        replace HB := Lib.hid (bstep (bstep HB.out hb) hbA)
        replace HCZ := Lib.hid (cell_below (cell_below HCZ.out hb) hbA)
        replace HX3 := Lib.hid ((HX3.out.below' hb).below' hbA)
        clear hb hbA HMORE
        have cz : (w4.alloc (.cells #[.int .i64 0, .int .i64 0] 30)).cell? ⟨g, 0, none⟩ = some (.int .i64 0) := HCZ.out
        go_wp2_with (first
          | (go_at_call 19; ((with_reducible refine (HROOM.out _ HT.out HR.out).mono ?_)); rintro e w5 ⟨rfl, hb⟩; replace HT := Lib.hid (HT.out.below hb); replace HB := Lib.hid (bstep HB.out hb); replace HX3 := Lib.hid (HX3.out.below' hb); clear hb)
          | (go_at_call 24; ((with_reducible refine (HCNT.out _ HT.out HR.out).mono ?_)); rintro e w6 ⟨rfl, hb⟩; replace HT := Lib.hid (HT.out.below hb); replace HB := Lib.hid (bstep HB.out hb); replace HX3 := Lib.hid (HX3.out.below' hb); clear hb)
          | (go_at_call 21; ((with_reducible refine (HLONG.out _ HT.out HR.out).mono ?_)); rintro e w7 ⟨rfl, hb⟩; replace HT := Lib.hid (HT.out.below hb); replace HB := Lib.hid (bstep HB.out hb); have bX := HX3.out.below' hb; have d0 := bX.cell (k := 0) rfl; have d1 := bX.cell (k := 1) rfl; clear hb bX))
        go_ret
        exact ⟨rfl, HB.out⟩
theorem lawHoleSums (p : Option Addr) (n cap : Nat) (w : World) (hn : n ≤ cap) (hm : cap ≤ maxLen) (hI : IC w p n) :
    Calls Try.prog 5 #[.slice p n cap] w fun e w' => e = .returned (.bool true) ∧ Below w.heap.size w w' := by
  rcases tabOr_of (cap := cap) hI with h | ⟨b, o, z, rfl, rfl, hT, hr⟩
  · exact sums_no p n cap w hn hm h
  · exact sums_yes b o cap z w hn hm hT hr
end Go.Proofs.Ytgjhdjfjfmbejaa
