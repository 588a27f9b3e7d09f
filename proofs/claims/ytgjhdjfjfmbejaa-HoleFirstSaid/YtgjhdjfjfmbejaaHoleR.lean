/-
  HoleFirst of chapter 8, walked: it returns true for every list and line, and what lay in memory stays.
-/
import Derived.Test.YtgjhdjfjfmbejaaHoleKept
namespace Go.Proofs.Ytgjhdjfjfmbejaa
open Go.RowKit Go.Lib Go.Shelf
attribute [local go_sem] Oper.semAt_some

set_option maxRecDepth 100000 in
set_option maxHeartbeats 2000000 in
theorem firstN_neg (p : Option Addr) (n cap : Nat) (f : Int) (w : World) (hn : n ≤ cap) (hm : cap ≤ maxLen) (hA : NoTab w (.slice p (min n 34) cap)) (hf : f < 0) :
    Calls Try.prog 7 #[.slice p n cap, .int .i64 f] w fun e w' => e = .returned (.bool true) ∧ Below w.heap.size w w' := by
  have HA := Lib.hid hA
  clear hA
  go_enter Try.func7, Try.ntmps7
  go_wp2_with (first
    | (go_at_call 8; ((with_reducible refine (shown_any _).mono ?_)); rintro e w1 ⟨rfl, hb⟩; replace HA := Lib.hid (HA.out.below hb); have HB := Lib.hid hb; clear hb)
    | (go_at_call 9; ((with_reducible refine (cut_any p n cap _ hn hm).mono ?_)); rintro e w' ⟨rfl, rfl⟩)
    | (go_at_call 12; ((with_reducible refine (next_no' _ _ _ HA.out).mono ?_)); rintro e w2 ⟨rfl, hb⟩; replace HA := Lib.hid (HA.out.below hb); replace HB := Lib.hid (bstep HB.out hb); clear hb))
  have hB3 := HB.out.alloc HB.out.size (.cells #[.int .i64 0, .int .i64 0] 30)
  have hA3 := HA.out.below ((Below.refl _ w2).alloc (Nat.le_refl _) (.cells #[.int .i64 0, .int .i64 0] 30))
  have bX := Blk.new w2 #[.int .i64 0, .int .i64 0] 30
  generalize w2.alloc (.cells #[.int .i64 0, .int .i64 0] 30) = W3 at hB3 hA3 bX ⊢
  have HA3 := Lib.hid hA3
  have HB3 := Lib.hid hB3
  have c0 : W3.cell? ⟨w2.heap.size, 0, none⟩ = some (.int .i64 0) := bX.cell rfl
  have c1 : W3.cell? ⟨w2.heap.size, 1, none⟩ = some (.int .i64 0) := bX.cell rfl
  clear hA3 hB3 HA HB
  refine wp_loop_rounds 1 ?_
  rw [rounds_succ]
  go_wp2_with (go_at_call 25; ((with_reducible refine (right_none _ _ HA3.out).mono ?_)); rintro e w4 ⟨rfl, hb⟩; replace HB3 := Lib.hid (bstep HB3.out hb); replace c0 := cell_below c0 hb; replace c1 := cell_below c1 hb; clear hb)
  refine wp_loop_rounds 1 ?_
  rw [rounds_succ]
  go_wp2
  go_ret
  exact ⟨rfl, HB3.out⟩

set_option maxRecDepth 100000 in
set_option maxHeartbeats 2000000 in
theorem firstN_in (p : Option Addr) (n cap : Nat) (f : Int) (w : World) (hn : n ≤ cap) (hm : cap ≤ maxLen) (hA : NoTab w (.slice p (min n 34) cap)) (hf : 0 ≤ f) (hf2 : f < 32) :
    Calls Try.prog 7 #[.slice p n cap, .int .i64 f] w fun e w' => e = .returned (.bool true) ∧ Below w.heap.size w w' := by
  have HA := Lib.hid hA
  clear hA
  go_enter Try.func7, Try.ntmps7
  go_wp2_with (first
    | (go_at_call 8; ((with_reducible refine (shown_any _).mono ?_)); rintro e w1 ⟨rfl, hb⟩; replace HA := Lib.hid (HA.out.below hb); have HB := Lib.hid hb; clear hb)
    | (go_at_call 9; ((with_reducible refine (cut_any p n cap _ hn hm).mono ?_)); rintro e w' ⟨rfl, rfl⟩)
    | (go_at_call 12; ((with_reducible refine (next_no' _ _ _ HA.out).mono ?_)); rintro e w2 ⟨rfl, hb⟩; replace HA := Lib.hid (HA.out.below hb); replace HB := Lib.hid (bstep HB.out hb); clear hb))
  have hB3 := HB.out.alloc HB.out.size (.cells #[.int .i64 0, .int .i64 0] 30)
  have hA3 := HA.out.below ((Below.refl _ w2).alloc (Nat.le_refl _) (.cells #[.int .i64 0, .int .i64 0] 30))
  have bX := Blk.new w2 #[.int .i64 0, .int .i64 0] 30
  generalize w2.alloc (.cells #[.int .i64 0, .int .i64 0] 30) = W3 at hB3 hA3 bX ⊢
  have HA3 := Lib.hid hA3
  have HB3 := Lib.hid hB3
  have c0 : W3.cell? ⟨w2.heap.size, 0, none⟩ = some (.int .i64 0) := bX.cell rfl
  have c1 : W3.cell? ⟨w2.heap.size, 1, none⟩ = some (.int .i64 0) := bX.cell rfl
  clear hA3 hB3 HA HB
  refine wp_loop_rounds 1 ?_
  rw [rounds_succ]
  go_wp2_with (go_at_call 25; ((with_reducible refine (right_none _ _ HA3.out).mono ?_)); rintro e w4 ⟨rfl, hb⟩; replace HB3 := Lib.hid (bstep HB3.out hb); replace c0 := cell_below c0 hb; replace c1 := cell_below c1 hb; clear hb)
  refine wp_loop_rounds 1 ?_
  rw [rounds_succ]
  go_wp2
  go_ret
  exact ⟨rfl, HB3.out⟩

set_option maxRecDepth 100000 in
set_option maxHeartbeats 2000000 in
theorem firstN_out (p : Option Addr) (n cap : Nat) (f : Int) (w : World) (hn : n ≤ cap) (hm : cap ≤ maxLen) (hA : NoTab w (.slice p (min n 34) cap)) (hf : 32 ≤ f) :
    Calls Try.prog 7 #[.slice p n cap, .int .i64 f] w fun e w' => e = .returned (.bool true) ∧ Below w.heap.size w w' := by
  have HA := Lib.hid hA
  clear hA
  go_enter Try.func7, Try.ntmps7
  go_wp2_with (first
    | (go_at_call 8; ((with_reducible refine (shown_any _).mono ?_)); rintro e w1 ⟨rfl, hb⟩; replace HA := Lib.hid (HA.out.below hb); have HB := Lib.hid hb; clear hb)
    | (go_at_call 9; ((with_reducible refine (cut_any p n cap _ hn hm).mono ?_)); rintro e w' ⟨rfl, rfl⟩)
    | (go_at_call 12; ((with_reducible refine (next_no' _ _ _ HA.out).mono ?_)); rintro e w2 ⟨rfl, hb⟩; replace HA := Lib.hid (HA.out.below hb); replace HB := Lib.hid (bstep HB.out hb); clear hb))
  have hB3 := HB.out.alloc HB.out.size (.cells #[.int .i64 0, .int .i64 0] 30)
  have hA3 := HA.out.below ((Below.refl _ w2).alloc (Nat.le_refl _) (.cells #[.int .i64 0, .int .i64 0] 30))
  have bX := Blk.new w2 #[.int .i64 0, .int .i64 0] 30
  generalize w2.alloc (.cells #[.int .i64 0, .int .i64 0] 30) = W3 at hB3 hA3 bX ⊢
  have HA3 := Lib.hid hA3
  have HB3 := Lib.hid hB3
  have c0 : W3.cell? ⟨w2.heap.size, 0, none⟩ = some (.int .i64 0) := bX.cell rfl
  have c1 : W3.cell? ⟨w2.heap.size, 1, none⟩ = some (.int .i64 0) := bX.cell rfl
  clear hA3 hB3 HA HB
  refine wp_loop_rounds 1 ?_
  rw [rounds_succ]
  go_wp2_with (go_at_call 25; ((with_reducible refine (right_none _ _ HA3.out).mono ?_)); rintro e w4 ⟨rfl, hb⟩; replace HB3 := Lib.hid (bstep HB3.out hb); replace c0 := cell_below c0 hb; replace c1 := cell_below c1 hb; clear hb)
  refine wp_loop_rounds 1 ?_
  rw [rounds_succ]
  go_wp2
  go_ret
  exact ⟨rfl, HB3.out⟩

set_option maxRecDepth 100000 in
set_option maxHeartbeats 2000000 in
theorem firstY_neg (b o cap : Nat) (z : Nat → Int) (f : Int) (x : Nat × Nat) (w : World) (hn : 32 ≤ cap) (hm : cap ≤ maxLen) (hT : Tab w b o z) (hr : rightT z = true) (hf : f < 0) (hx : (holesZ (keptZ z) 0).head? = some x) :
    Calls Try.prog 7 #[.slice (some ⟨b, o, none⟩) 32 cap, .int .i64 f] w fun e w' => e = .returned (.bool true) ∧ Below w.heap.size w w' := by
  have HT := Lib.hid hT
  have HR := Lib.hid hr
  have HX : Hid ((holesZ (keptZ z) (line0 f)).head? = some x) := Lib.hid (by rw [show line0 f = 0 by unfold line0; omega]; exact hx)
  obtain ⟨x1, x2, x3, K1, K2, K3⟩ : 0 ≤ x.1 ∧ x.1 < x.2 ∧ x.2 ≤ 32 ∧ Hid (∀ k, 0 ≤ k → k < x.1 → keptZ z k = true) ∧ Hid (∀ k, x.1 ≤ k → k < x.2 → keptZ z k = false) ∧ Hid (x.2 < 32 → keptZ z x.2 = true) := by
    cases he : holesZ (keptZ z) 0 with
    | nil => rw [he] at hx; cases hx
    | cons y rest =>
      rw [he] at hx
      simp at hx
      subst hx
      obtain ⟨h1, h2, h3, h4, h5, h6, _⟩ := holesZ_cons (keptZ z) 32 0 (by omega) y rest he
      exact ⟨h1, h2, h3, Lib.hid h4, Lib.hid h5, Lib.hid h6⟩
  clear hT hr hx
  go_enter Try.func7, Try.ntmps7
  go_wp2_with (first
    | (go_at_call 8; ((with_reducible refine (shown_any _).mono ?_)); rintro e w1 ⟨rfl, hb⟩; replace HT := Lib.hid (HT.out.below hb); have HB := Lib.hid hb; clear hb)
    | (go_at_call 9; ((with_reducible refine (cut_32 _ cap _ hn hm).mono ?_)); rintro e w' ⟨rfl, rfl⟩)
    | (go_at_call 12; ((with_reducible refine (next_at b o cap z _ x _ HT.out HR.out HX.out).mono ?_)); rintro e w2 ⟨rfl, hb⟩; replace HT := Lib.hid (HT.out.below hb); replace HB := Lib.hid (bstep HB.out hb); clear hb))
  have hB3 := HB.out.alloc HB.out.size (.cells #[.int .i64 (x.1 : Int), .int .i64 (x.2 : Int)] 30)
  have hT3 := HT.out.below ((Below.refl _ w2).alloc (Nat.le_refl _) (.cells #[.int .i64 (x.1 : Int), .int .i64 (x.2 : Int)] 30))
  have bX := Blk.new w2 #[.int .i64 (x.1 : Int), .int .i64 (x.2 : Int)] 30
  generalize w2.alloc (.cells #[.int .i64 (x.1 : Int), .int .i64 (x.2 : Int)] 30) = W3 at hB3 hT3 bX ⊢
  have HT3 := Lib.hid hT3
  have HB3 := Lib.hid hB3
  have HX3 := Lib.hid bX
  clear hT3 hB3 HT HB bX
  go_loopw [9] (fun i wr => ∃ k : Nat, 0 ≤ k ∧ k ≤ x.1 ∧ i = .int .i64 (k : Int) ∧ Below W3.heap.size W3 wr) (fun i _ => 64 - (intOf i).toNat)
  case atStart => exact ⟨0, Nat.le_refl _, by omega, rfl, Below.refl _ _⟩
  case round =>
    obtain ⟨k, hk1, hk2, rfl, hB⟩ := hrel
    have HBr := Lib.hid hB
    clear hB
    by_cases hlt : k < x.1
    · have hk3 : k < 32 := by omega
      go_wp2_with (first
        | (go_at_call 25; ((with_reducible refine (right_yes b o cap z _ (HT3.out.below HBr.out) HR.out).mono ?_)); rintro e w4 ⟨rfl, hb⟩; have HB4 := Lib.hid (bstep HBr.out hb); clear hb)
        | (go_at_call 26; ((with_reducible refine (Kept_t k b o cap z _ (HT3.out.below HB4.out) HR.out hk3 (K1.out k hk1 (by omega))).mono ?_)); rintro e w5 ⟨rfl, hb⟩; have HB5 := Lib.hid (bstep HB4.out hb); clear hb))
      go_roundw
      case rel => exact ⟨k + 1, by omega, by omega, by go_num, HB5.out⟩
      case measure => simp [intOf]; omega
    · obtain rfl : k = x.1 := by omega
      have bX := HX3.out.below' HBr.out
      have c0 : wr.cell? ⟨w2.heap.size, 0, none⟩ = some (.int .i64 (x.1 : Int)) := bX.cell rfl
      have HTr := Lib.hid (HT3.out.below HBr.out)
      have HXr := Lib.hid bX
      have HB6 := Lib.hid (bstep HB3.out HBr.out)
      clear bX
      go_wp2
      clear c0
      obtain ⟨wo, rfl⟩ : ∃ wo : World, wo = wr := ⟨_, rfl⟩
      go_loopw [10] (fun i wr => ∃ k : Nat, x.1 ≤ k ∧ k ≤ x.2 ∧ i = .int .i64 (k : Int) ∧ Below wo.heap.size wo wr) (fun i _ => 64 - (intOf i).toNat)
      case atStart => exact ⟨x.1, Nat.le_refl _, by omega, rfl, Below.refl _ _⟩
      case round =>
        obtain ⟨j, hj1, hj2, rfl, hB'⟩ := hrel
        have bX := HXr.out.below' hB'
        have c0 : wr.cell? ⟨w2.heap.size, 0, none⟩ = some (.int .i64 (x.1 : Int)) := bX.cell rfl
        have c1 : wr.cell? ⟨w2.heap.size, 1, none⟩ = some (.int .i64 (x.2 : Int)) := bX.cell rfl
        have HB7 := Lib.hid hB'
        clear bX hB'
        by_cases hjl : j < x.2
        · have hj3 : j < 32 := by omega
          go_wp2_with (go_at_call 26; ((with_reducible refine (Kept_f j b o cap z _ (HTr.out.below HB7.out) HR.out hj3 (K2.out j hj1 hjl)).mono ?_)); rintro e w5 ⟨rfl, hb⟩; have HB8 := Lib.hid (bstep HB7.out hb); clear hb)
          go_roundw
          case rel => exact ⟨j + 1, by omega, by omega, by go_num, HB8.out⟩
          case measure => simp [intOf]; omega
        · obtain rfl : j = x.2 := by omega
          by_cases h32 : x.2 = 32
          · have e32 : ((x.2 : Int) == 32) = true := by simp; omega
            clear h32
            go_wp2
            go_ret
            exact ⟨rfl, bstep HB6.out HB7.out⟩
          · have e32 : ((x.2 : Int) == 32) = false := by simp; omega
            have hx32 : x.2 < 32 := by omega
            clear h32
            go_wp2_with (go_at_call 26; ((with_reducible refine (Kept_t x.2 b o cap z _ (HTr.out.below HB7.out) HR.out hx32 (K3.out hx32)).mono ?_)); rintro e w5 ⟨rfl, hb⟩; have HB8 := Lib.hid (bstep HB7.out hb); clear hb)
            go_ret
            exact ⟨rfl, bstep HB6.out HB8.out⟩

set_option maxRecDepth 100000 in
set_option maxHeartbeats 2000000 in
theorem firstY_pos (b o cap : Nat) (z : Nat → Int) (m : Nat) (x : Nat × Nat) (w : World) (hn : 32 ≤ cap) (hm : cap ≤ maxLen) (hT : Tab w b o z) (hr : rightT z = true)  (hx : (holesZ (keptZ z) m).head? = some x) :
    Calls Try.prog 7 #[.slice (some ⟨b, o, none⟩) 32 cap, .int .i64 (m : Int)] w fun e w' => e = .returned (.bool true) ∧ Below w.heap.size w w' := by
  have HT := Lib.hid hT
  have HR := Lib.hid hr
  have HX : Hid ((holesZ (keptZ z) (line0 (m : Int))).head? = some x) := Lib.hid (by rw [show line0 (m : Int) = m by unfold line0; omega]; exact hx)
  obtain ⟨x1, x2, x3, K1, K2, K3⟩ : m ≤ x.1 ∧ x.1 < x.2 ∧ x.2 ≤ 32 ∧ Hid (∀ k, m ≤ k → k < x.1 → keptZ z k = true) ∧ Hid (∀ k, x.1 ≤ k → k < x.2 → keptZ z k = false) ∧ Hid (x.2 < 32 → keptZ z x.2 = true) := by
    cases he : holesZ (keptZ z) m with
    | nil => rw [he] at hx; cases hx
    | cons y rest =>
      rw [he] at hx
      simp at hx
      subst hx
      obtain ⟨h1, h2, h3, h4, h5, h6, _⟩ := holesZ_cons (keptZ z) 32 m (by omega) y rest he
      exact ⟨h1, h2, h3, Lib.hid h4, Lib.hid h5, Lib.hid h6⟩
  clear hT hr hx
  go_enter Try.func7, Try.ntmps7
  go_wp2_with (first
    | (go_at_call 8; ((with_reducible refine (shown_any _).mono ?_)); rintro e w1 ⟨rfl, hb⟩; replace HT := Lib.hid (HT.out.below hb); have HB := Lib.hid hb; clear hb)
    | (go_at_call 9; ((with_reducible refine (cut_32 _ cap _ hn hm).mono ?_)); rintro e w' ⟨rfl, rfl⟩)
    | (go_at_call 12; ((with_reducible refine (next_at b o cap z _ x _ HT.out HR.out HX.out).mono ?_)); rintro e w2 ⟨rfl, hb⟩; replace HT := Lib.hid (HT.out.below hb); replace HB := Lib.hid (bstep HB.out hb); clear hb))
  have hB3 := HB.out.alloc HB.out.size (.cells #[.int .i64 (x.1 : Int), .int .i64 (x.2 : Int)] 30)
  have hT3 := HT.out.below ((Below.refl _ w2).alloc (Nat.le_refl _) (.cells #[.int .i64 (x.1 : Int), .int .i64 (x.2 : Int)] 30))
  have bX := Blk.new w2 #[.int .i64 (x.1 : Int), .int .i64 (x.2 : Int)] 30
  generalize w2.alloc (.cells #[.int .i64 (x.1 : Int), .int .i64 (x.2 : Int)] 30) = W3 at hB3 hT3 bX ⊢
  have HT3 := Lib.hid hT3
  have HB3 := Lib.hid hB3
  have HX3 := Lib.hid bX
  clear hT3 hB3 HT HB bX
  go_loopw [9] (fun i wr => ∃ k : Nat, m ≤ k ∧ k ≤ x.1 ∧ i = .int .i64 (k : Int) ∧ Below W3.heap.size W3 wr) (fun i _ => 64 - (intOf i).toNat)
  case atStart => exact ⟨m, Nat.le_refl _, by omega, rfl, Below.refl _ _⟩
  case round =>
    obtain ⟨k, hk1, hk2, rfl, hB⟩ := hrel
    have HBr := Lib.hid hB
    clear hB
    by_cases hlt : k < x.1
    · have hk3 : k < 32 := by omega
      go_wp2_with (first
        | (go_at_call 25; ((with_reducible refine (right_yes b o cap z _ (HT3.out.below HBr.out) HR.out).mono ?_)); rintro e w4 ⟨rfl, hb⟩; have HB4 := Lib.hid (bstep HBr.out hb); clear hb)
        | (go_at_call 26; ((with_reducible refine (Kept_t k b o cap z _ (HT3.out.below HB4.out) HR.out hk3 (K1.out k hk1 (by omega))).mono ?_)); rintro e w5 ⟨rfl, hb⟩; have HB5 := Lib.hid (bstep HB4.out hb); clear hb))
      go_roundw
      case rel => exact ⟨k + 1, by omega, by omega, by go_num, HB5.out⟩
      case measure => simp [intOf]; omega
    · obtain rfl : k = x.1 := by omega
      have bX := HX3.out.below' HBr.out
      have c0 : wr.cell? ⟨w2.heap.size, 0, none⟩ = some (.int .i64 (x.1 : Int)) := bX.cell rfl
      have HTr := Lib.hid (HT3.out.below HBr.out)
      have HXr := Lib.hid bX
      have HB6 := Lib.hid (bstep HB3.out HBr.out)
      clear bX
      go_wp2
      clear c0
      obtain ⟨wo, rfl⟩ : ∃ wo : World, wo = wr := ⟨_, rfl⟩
      go_loopw [10] (fun i wr => ∃ k : Nat, x.1 ≤ k ∧ k ≤ x.2 ∧ i = .int .i64 (k : Int) ∧ Below wo.heap.size wo wr) (fun i _ => 64 - (intOf i).toNat)
      case atStart => exact ⟨x.1, Nat.le_refl _, by omega, rfl, Below.refl _ _⟩
      case round =>
        obtain ⟨j, hj1, hj2, rfl, hB'⟩ := hrel
        have bX := HXr.out.below' hB'
        have c0 : wr.cell? ⟨w2.heap.size, 0, none⟩ = some (.int .i64 (x.1 : Int)) := bX.cell rfl
        have c1 : wr.cell? ⟨w2.heap.size, 1, none⟩ = some (.int .i64 (x.2 : Int)) := bX.cell rfl
        have HB7 := Lib.hid hB'
        clear bX hB'
        by_cases hjl : j < x.2
        · have hj3 : j < 32 := by omega
          go_wp2_with (go_at_call 26; ((with_reducible refine (Kept_f j b o cap z _ (HTr.out.below HB7.out) HR.out hj3 (K2.out j hj1 hjl)).mono ?_)); rintro e w5 ⟨rfl, hb⟩; have HB8 := Lib.hid (bstep HB7.out hb); clear hb)
          go_roundw
          case rel => exact ⟨j + 1, by omega, by omega, by go_num, HB8.out⟩
          case measure => simp [intOf]; omega
        · obtain rfl : j = x.2 := by omega
          by_cases h32 : x.2 = 32
          · have e32 : ((x.2 : Int) == 32) = true := by simp; omega
            clear h32
            go_wp2
            go_ret
            exact ⟨rfl, bstep HB6.out HB7.out⟩
          · have e32 : ((x.2 : Int) == 32) = false := by simp; omega
            have hx32 : x.2 < 32 := by omega
            clear h32
            go_wp2_with (go_at_call 26; ((with_reducible refine (Kept_t x.2 b o cap z _ (HTr.out.below HB7.out) HR.out hx32 (K3.out hx32)).mono ?_)); rintro e w5 ⟨rfl, hb⟩; have HB8 := Lib.hid (bstep HB7.out hb); clear hb)
            go_ret
            exact ⟨rfl, bstep HB6.out HB8.out⟩

set_option maxRecDepth 100000 in
set_option maxHeartbeats 2000000 in
theorem firstZ_neg (b o cap : Nat) (z : Nat → Int) (f : Int) (w : World) (hn : 32 ≤ cap) (hm : cap ≤ maxLen) (hT : Tab w b o z) (hr : rightT z = true) (hf : f < 0) (hx : (holesZ (keptZ z) 0).head? = none) :
    Calls Try.prog 7 #[.slice (some ⟨b, o, none⟩) 32 cap, .int .i64 f] w fun e w' => e = .returned (.bool true) ∧ Below w.heap.size w w' := by
  have HT := Lib.hid hT
  have HR := Lib.hid hr
  have HX : Hid ((holesZ (keptZ z) (line0 f)).head? = none) := Lib.hid (by rw [show line0 f = 0 by unfold line0; omega]; exact hx)
  have K1 := Lib.hid (holesZ_nil (keptZ z) 32 0 (by omega) (by simpa using hx))
  clear hT hr hx
  go_enter Try.func7, Try.ntmps7
  go_wp2_with (first
    | (go_at_call 8; ((with_reducible refine (shown_any _).mono ?_)); rintro e w1 ⟨rfl, hb⟩; replace HT := Lib.hid (HT.out.below hb); have HB := Lib.hid hb; clear hb)
    | (go_at_call 9; ((with_reducible refine (cut_32 _ cap _ hn hm).mono ?_)); rintro e w' ⟨rfl, rfl⟩)
    | (go_at_call 12; ((with_reducible refine (next_off b o cap z _ _ HT.out HR.out HX.out).mono ?_)); rintro e w2 ⟨rfl, hb⟩; replace HT := Lib.hid (HT.out.below hb); replace HB := Lib.hid (bstep HB.out hb); clear hb))
  have hB3 := HB.out.alloc HB.out.size (.cells #[.int .i64 0, .int .i64 0] 30)
  have hT3 := HT.out.below ((Below.refl _ w2).alloc (Nat.le_refl _) (.cells #[.int .i64 0, .int .i64 0] 30))
  have bX := Blk.new w2 #[.int .i64 0, .int .i64 0] 30
  generalize w2.alloc (.cells #[.int .i64 0, .int .i64 0] 30) = W3 at hB3 hT3 bX ⊢
  have HT3 := Lib.hid hT3
  have HB3 := Lib.hid hB3
  have HX3 := Lib.hid bX
  clear hT3 hB3 HT HB bX
  go_loopw [9] (fun i wr => ∃ k : Nat, 0 ≤ k ∧ i = .int .i64 (k : Int) ∧ Below W3.heap.size W3 wr) (fun i _ => 64 - (intOf i).toNat)
  case atStart => exact ⟨0, Nat.le_refl _, rfl, Below.refl _ _⟩
  case round =>
    obtain ⟨k, hk1, rfl, hB⟩ := hrel
    have HBr := Lib.hid hB
    clear hB
    by_cases hlt : k < 32
    · have hk3 : k < 32 := by omega
      go_wp2_with (first
        | (go_at_call 25; ((with_reducible refine (right_yes b o cap z _ (HT3.out.below HBr.out) HR.out).mono ?_)); rintro e w4 ⟨rfl, hb⟩; have HB4 := Lib.hid (bstep HBr.out hb); clear hb)
        | (go_at_call 26; ((with_reducible refine (Kept_t k b o cap z _ (HT3.out.below HB4.out) HR.out hk3 (K1.out k hk1 (by omega))).mono ?_)); rintro e w5 ⟨rfl, hb⟩; have HB5 := Lib.hid (bstep HB4.out hb); clear hb))
      go_roundw
      case rel => exact ⟨k + 1, by omega, by go_num, HB5.out⟩
      case measure => simp [intOf]; omega
    · have bX := HX3.out.below' HBr.out
      have c0 : wr.cell? ⟨w2.heap.size, 0, none⟩ = some (.int .i64 0) := bX.cell rfl
      have c1 : wr.cell? ⟨w2.heap.size, 1, none⟩ = some (.int .i64 0) := bX.cell rfl
      have HB6 := Lib.hid (bstep HB3.out HBr.out)
      clear bX
      go_wp2
      refine wp_loop_rounds 1 ?_
      rw [rounds_succ]
      go_wp2
      go_ret
      exact ⟨rfl, HB6.out⟩

set_option maxRecDepth 100000 in
set_option maxHeartbeats 2000000 in
theorem firstZ_pos (b o cap : Nat) (z : Nat → Int) (m : Nat) (w : World) (hn : 32 ≤ cap) (hm : cap ≤ maxLen) (hT : Tab w b o z) (hr : rightT z = true)  (hx : (holesZ (keptZ z) m).head? = none) :
    Calls Try.prog 7 #[.slice (some ⟨b, o, none⟩) 32 cap, .int .i64 (m : Int)] w fun e w' => e = .returned (.bool true) ∧ Below w.heap.size w w' := by
  have HT := Lib.hid hT
  have HR := Lib.hid hr
  have HX : Hid ((holesZ (keptZ z) (line0 (m : Int))).head? = none) := Lib.hid (by rw [show line0 (m : Int) = m by unfold line0; omega]; exact hx)
  have K1 := Lib.hid (holesZ_nil (keptZ z) 32 m (by omega) (by simpa using hx))
  clear hT hr hx
  go_enter Try.func7, Try.ntmps7
  go_wp2_with (first
    | (go_at_call 8; ((with_reducible refine (shown_any _).mono ?_)); rintro e w1 ⟨rfl, hb⟩; replace HT := Lib.hid (HT.out.below hb); have HB := Lib.hid hb; clear hb)
    | (go_at_call 9; ((with_reducible refine (cut_32 _ cap _ hn hm).mono ?_)); rintro e w' ⟨rfl, rfl⟩)
    | (go_at_call 12; ((with_reducible refine (next_off b o cap z _ _ HT.out HR.out HX.out).mono ?_)); rintro e w2 ⟨rfl, hb⟩; replace HT := Lib.hid (HT.out.below hb); replace HB := Lib.hid (bstep HB.out hb); clear hb))
  have hB3 := HB.out.alloc HB.out.size (.cells #[.int .i64 0, .int .i64 0] 30)
  have hT3 := HT.out.below ((Below.refl _ w2).alloc (Nat.le_refl _) (.cells #[.int .i64 0, .int .i64 0] 30))
  have bX := Blk.new w2 #[.int .i64 0, .int .i64 0] 30
  generalize w2.alloc (.cells #[.int .i64 0, .int .i64 0] 30) = W3 at hB3 hT3 bX ⊢
  have HT3 := Lib.hid hT3
  have HB3 := Lib.hid hB3
  have HX3 := Lib.hid bX
  clear hT3 hB3 HT HB bX
  go_loopw [9] (fun i wr => ∃ k : Nat, m ≤ k ∧ i = .int .i64 (k : Int) ∧ Below W3.heap.size W3 wr) (fun i _ => 64 - (intOf i).toNat)
  case atStart => exact ⟨m, Nat.le_refl _, rfl, Below.refl _ _⟩
  case round =>
    obtain ⟨k, hk1, rfl, hB⟩ := hrel
    have HBr := Lib.hid hB
    clear hB
    by_cases hlt : k < 32
    · have hk3 : k < 32 := by omega
      go_wp2_with (first
        | (go_at_call 25; ((with_reducible refine (right_yes b o cap z _ (HT3.out.below HBr.out) HR.out).mono ?_)); rintro e w4 ⟨rfl, hb⟩; have HB4 := Lib.hid (bstep HBr.out hb); clear hb)
        | (go_at_call 26; ((with_reducible refine (Kept_t k b o cap z _ (HT3.out.below HB4.out) HR.out hk3 (K1.out k hk1 (by omega))).mono ?_)); rintro e w5 ⟨rfl, hb⟩; have HB5 := Lib.hid (bstep HB4.out hb); clear hb))
      go_roundw
      case rel => exact ⟨k + 1, by omega, by go_num, HB5.out⟩
      case measure => simp [intOf]; omega
    · have bX := HX3.out.below' HBr.out
      have c0 : wr.cell? ⟨w2.heap.size, 0, none⟩ = some (.int .i64 0) := bX.cell rfl
      have c1 : wr.cell? ⟨w2.heap.size, 1, none⟩ = some (.int .i64 0) := bX.cell rfl
      have HB6 := Lib.hid (bstep HB3.out HBr.out)
      clear bX
      go_wp2
      refine wp_loop_rounds 1 ?_
      rw [rounds_succ]
      go_wp2
      go_ret
      exact ⟨rfl, HB6.out⟩

theorem lawHoleFirst (p : Option Addr) (n cap : Nat) (f : Int) (w : World) (hn : n ≤ cap) (hm : cap ≤ maxLen) (hI : IC w p n) :
    Calls Try.prog 7 #[.slice p n cap, .int .i64 f] w fun e w' => e = .returned (.bool true) ∧ Below w.heap.size w w' := by
  rcases tabOr_of (cap := cap) hI with h | ⟨b, o, z, rfl, rfl, hT, hr⟩
  · by_cases h0 : f < 0
    · exact firstN_neg p n cap f w hn hm h h0
    · by_cases h1 : f < 32
      · exact firstN_in p n cap f w hn hm h (by omega) h1
      · exact firstN_out p n cap f w hn hm h (by omega)
  · by_cases h0 : f < 0
    · cases hx : (holesZ (keptZ z) 0).head? with
      | some x => exact firstY_neg b o cap z f x w hn hm hT hr h0 hx
      | none => exact firstZ_neg b o cap z f w hn hm hT hr h0 hx
    · obtain ⟨m, rfl⟩ := Int.eq_ofNat_of_zero_le (show 0 ≤ f by omega)
      cases hx : (holesZ (keptZ z) m).head? with
      | some x => exact firstY_pos b o cap z m x w hn hm hT hr hx
      | none => exact firstZ_pos b o cap z m w hn hm hT hr hx
end Go.Proofs.Ytgjhdjfjfmbejaa
