/-
  MarksSmall of chapter 7, walked: it returns true for every extent and line, and what lay in memory stays.
-/
import Derived.Test.YtgjhdjfjfmbejaaDoorMarkT
namespace Go.Proofs.YtgjhdjfjfmbejaaDoor
open Go.RowKit Go.Lib Go.Shelf
attribute [local go_sem] Oper.semAt_some

theorem make_ar (w : World) : AR (w.alloc (.cells (tcells fun _ => 0) 3)) (.slice (some ⟨w.heap.size, 0, none⟩) 32 32) (some fun _ => 0) := ⟨_, 0, 32, rfl, (Blk.new w (tcells fun _ => 0) 3).tab, right0⟩
theorem keptL_cong {z y : Nat → Int} (h : ∀ i, i < 32 → keptZ z i = keptZ y i) : (keptL z 32).length = (keptL y 32).length := by
  unfold keptL
  congr 1
  refine List.filter_congr ?_
  intro x _
  rw [h x.val x.isLt]
/-- How many of the first m lines lie between two. -/
theorem count_between (z : Nat → Int) (f l : Int) (hf : 0 ≤ f) (hfl : f ≤ l) (h : ∀ i : Nat, i < 32 → keptZ z i = decide (f ≤ (i : Int) ∧ (i : Int) ≤ l)) (m : Nat) (hm : m ≤ 32) :
    ((keptL z m).length : Int) = if (m : Int) ≤ f then 0 else if (m : Int) ≤ l then (m : Int) - f else l - f + 1 := by
  induction m with
  | zero => rw [if_pos (by omega)]; rfl
  | succ m ih =>
    rw [keptL_succ z m (by omega), List.length_append, h m (by omega)]
    have := ih (by omega)
    rw [Int.natCast_add, this]
    by_cases h1 : f ≤ (m : Int) ∧ (m : Int) ≤ l
    · simp only [h1, and_self, decide_true, if_true, List.length_cons, List.length_nil]
      split <;> split <;> (try split) <;> (try split) <;> omega
    · rw [decide_eq_false h1]
      simp only [Bool.false_eq_true, if_false, List.length_nil]
      split <;> split <;> (try split) <;> (try split) <;> omega
theorem count_alone {a n : Int} (hx : xr a n) : ((keptL (markZ (fun _ => 0) a n) 32).length : Int) = lastL a n - a / 128 + 1 := by
  have h1 : lastL a n < 32 ∧ a / 128 ≤ lastL a n := by
    obtain ⟨x1, x2, _, x4, x5, x6⟩ := hx
    unfold lastL
    split
    · split <;> omega
    · omega
  have h0 : 0 ≤ a / 128 := by obtain ⟨x1, _⟩ := hx; omega
  have := count_between _ (a / 128) (lastL a n) h0 h1.2 (fun i hi => kept_alone hx i hi) 32 (Nat.le_refl _)
  rw [this, if_neg (by omega), if_neg (by omega)]
theorem keptI_alone {a n : Int} (hx : xr a n) (line : Int) : keptI (markZ (fun _ => 0) a n) line = decide (a / 128 ≤ line ∧ line ≤ lastL a n) := by
  have h1 : lastL a n < 32 := by
    obtain ⟨x1, x2, _, x4, x5, x6⟩ := hx
    unfold lastL
    split
    · split <;> omega
    · omega
  have h0 : 0 ≤ a / 128 := by obtain ⟨x1, _⟩ := hx; omega
  unfold keptI
  by_cases h : 0 ≤ line ∧ line < 32
  · obtain ⟨l, rfl⟩ := Int.eq_ofNat_of_zero_le h.1
    rw [Int.toNat_natCast, kept_alone hx l (by omega)]
    simp only [h, and_self, decide_true, Bool.true_and]
  · rw [Bool.eq_iff_iff]
    simp only [Bool.and_eq_true, decide_eq_true_eq]
    omega

set_option maxRecDepth 100000 in
set_option maxHeartbeats 2000000 in
theorem small_bad (V : VA) (a n line : Int) (w : World) (hV : MV w V) (hx : ¬ xr a n) :
    Calls Tryd.prog 5 #[.int .i64 a, .int .i64 n, .int .i64 line] w fun e w' => e = .returned (.bool true) ∧ Below w.heap.size w w' := by
  have M1 := Lib.hid (markAt_bad V (fun _ => 0) a n hx)
  have HV := Lib.hid hV
  have HB := Lib.hid (Below.refl w.heap.size w)
  clear hV hx
  go_enter Tryd.func5, Tryd.ntmps5
  go_wp2_with (first
    | (go_at_call 10; ((with_reducible refine (shown7_any V _ HV.out).mono ?_)); rintro e w1 ⟨rfl, hb⟩; replace HV := Lib.hid (HV.out.below hb); replace HB := Lib.hid (bstep HB.out hb); clear hb)
    | (go_at_call 17; ((with_reducible refine (make_any _).mono ?_)); rintro e w2 ⟨rfl, rfl⟩))
  have hbA := (Below.refl _ w1).alloc (Nat.le_refl _) (.cells (tcells fun _ => 0) 3)
  ((with_reducible refine (M1.out.call _ _ (HV.out.below hbA) (make_ar _)).mono ?_))
  rintro e w2 ⟨u1, rfl, _, _, hb⟩
  replace HB := Lib.hid (bstep HB.out (bstep hbA hb))
  clear hb hbA
  go_wp2
  go_ret
  exact ⟨rfl, HB.out⟩

set_option maxRecDepth 100000 in
set_option maxHeartbeats 2000000 in
theorem small_good (V : VA) (a n line : Int) (w : World) (hV : MV w V) (hx : xr a n) :
    Calls Tryd.prog 5 #[.int .i64 a, .int .i64 n, .int .i64 line] w fun e w' => e = .returned (.bool true) ∧ Below w.heap.size w w' := by
  have M1 := Lib.hid (markAt_good V (fun _ => 0) a n hx)
  have HK := Lib.hid (fun v w h => kept_ar v (some (markZ (fun _ => 0) a n)) line w h)
  have hke := keptI_alone hx line
  have hco := count_alone hx
  have HV := Lib.hid hV
  have HB := Lib.hid (Below.refl w.heap.size w)
  obtain ⟨y1, y2, y3, y4, y5, y6⟩ := hx
  obtain ⟨f, hf⟩ : ∃ f : Int, a / 128 = f := ⟨_, rfl⟩
  obtain ⟨l, hl⟩ : ∃ l : Int, (a + n - 1) / 128 = l := ⟨_, rfl⟩
  have f0 : 0 ≤ f := by omega
  have f1 : f < 32 := by omega
  have l0 : f ≤ l := by omega
  have l1 : l < 32 := by omega
  rw [show keptO (some (markZ (fun _ => 0) a n)) line = keptI (markZ (fun _ => 0) a n) line from rfl, hke] at HK
  have hsp := fun w hV => Ad.span_yes a n w V.aA V.aS V.aR hV y4 y1 (by omega) (by omega)
  rw [hf, hl] at hsp
  have HSP := Lib.hid hsp
  have hcnt : ∀ (v : Value) (w : World), AR w v (some (markZ (fun _ => 0) a n)) → Calls Tryd.prog 18 #[v] w fun e w' => e = .returned (.int .i64 (lastL a n - a / 128 + 1)) ∧ Below w.heap.size w w' := fun v w h => by
    obtain ⟨b, o, cap, rfl, hT, hr⟩ := h
    exact count_s b o cap _ _ hco w hT hr
  have HC := Lib.hid hcnt
  clear hV y3 hke hco hsp hcnt
  rw [hf] at HK HC
  unfold lastL at HK HC
  rw [hf, hl] at HK HC
  clear hf hl
  by_cases hn : n ≤ 128
  · rw [if_pos hn] at HK HC
    by_cases hm : f + 1 ≤ 31
    · rw [if_pos hm] at HK HC
      by_cases h1 : f ≤ line
      · by_cases h2 : line ≤ f + 1
        · rw [show decide (f ≤ line ∧ line ≤ f + 1) = true by simp [h1, h2]] at HK
          go_enter Tryd.func5, Tryd.ntmps5
          go_wp2_with (first
            | (go_at_call 10; ((with_reducible refine (shown7_any V _ HV.out).mono ?_)); rintro e w1 ⟨rfl, hb⟩; replace HV := Lib.hid (HV.out.below hb); replace HB := Lib.hid (bstep HB.out hb); clear hb)
            | (go_at_call 17; ((with_reducible refine (make_any _).mono ?_)); rintro e w2 ⟨rfl, rfl⟩))
          have hbA := (Below.refl _ w1).alloc (Nat.le_refl _) (.cells (tcells fun _ => 0) 3)
          ((with_reducible refine (M1.out.call _ _ (HV.out.below hbA) (make_ar _)).mono ?_))
          rintro e w2 ⟨u1, rfl, h1', _, hb⟩
          replace HV := Lib.hid ((HV.out.below hbA).below hb)
          replace HB := Lib.hid (bstep HB.out (bstep hbA hb))
          have A1 := Lib.hid h1'
          clear hb hbA h1'
          go_wp2_with fail
          ((with_reducible refine (HSP.out _ HV.out.av).mono ?_))
          rintro e w3 ⟨rfl, hb⟩
          replace HB := Lib.hid (bstep HB.out hb)
          replace A1 := Lib.hid (A1.out.below hb)
          clear hb
          go_wp2_with fail
          ((with_reducible refine (HK.out _ _ A1.out).mono ?_))
          rintro e w4 ⟨rfl, hb⟩
          replace HB := Lib.hid (bstep HB.out hb)
          replace A1 := Lib.hid (A1.out.below hb)
          clear hb
          go_wp2_with fail
          ((with_reducible refine (HC.out _ _ A1.out).mono ?_))
          rintro e w5 ⟨rfl, hb⟩
          replace HB := Lib.hid (bstep HB.out hb)
          clear hb
          go_wp2
          go_ret
          refine ⟨?_, HB.out⟩
          first | rfl | (simp; done) | (simp; omega)
        · rw [show decide (f ≤ line ∧ line ≤ f + 1) = false by simp [h2]] at HK
          go_enter Tryd.func5, Tryd.ntmps5
          go_wp2_with (first
            | (go_at_call 10; ((with_reducible refine (shown7_any V _ HV.out).mono ?_)); rintro e w1 ⟨rfl, hb⟩; replace HV := Lib.hid (HV.out.below hb); replace HB := Lib.hid (bstep HB.out hb); clear hb)
            | (go_at_call 17; ((with_reducible refine (make_any _).mono ?_)); rintro e w2 ⟨rfl, rfl⟩))
          have hbA := (Below.refl _ w1).alloc (Nat.le_refl _) (.cells (tcells fun _ => 0) 3)
          ((with_reducible refine (M1.out.call _ _ (HV.out.below hbA) (make_ar _)).mono ?_))
          rintro e w2 ⟨u1, rfl, h1', _, hb⟩
          replace HV := Lib.hid ((HV.out.below hbA).below hb)
          replace HB := Lib.hid (bstep HB.out (bstep hbA hb))
          have A1 := Lib.hid h1'
          clear hb hbA h1'
          go_wp2_with fail
          ((with_reducible refine (HSP.out _ HV.out.av).mono ?_))
          rintro e w3 ⟨rfl, hb⟩
          replace HB := Lib.hid (bstep HB.out hb)
          replace A1 := Lib.hid (A1.out.below hb)
          clear hb
          go_wp2_with fail
          ((with_reducible refine (HK.out _ _ A1.out).mono ?_))
          rintro e w4 ⟨rfl, hb⟩
          replace HB := Lib.hid (bstep HB.out hb)
          replace A1 := Lib.hid (A1.out.below hb)
          clear hb
          go_wp2_with fail
          ((with_reducible refine (HC.out _ _ A1.out).mono ?_))
          rintro e w5 ⟨rfl, hb⟩
          replace HB := Lib.hid (bstep HB.out hb)
          clear hb
          go_wp2
          go_ret
          refine ⟨?_, HB.out⟩
          first | rfl | (simp; done) | (simp; omega)
      · rw [show decide (f ≤ line ∧ line ≤ f + 1) = false by simp [h1]] at HK
        go_enter Tryd.func5, Tryd.ntmps5
        go_wp2_with (first
          | (go_at_call 10; ((with_reducible refine (shown7_any V _ HV.out).mono ?_)); rintro e w1 ⟨rfl, hb⟩; replace HV := Lib.hid (HV.out.below hb); replace HB := Lib.hid (bstep HB.out hb); clear hb)
          | (go_at_call 17; ((with_reducible refine (make_any _).mono ?_)); rintro e w2 ⟨rfl, rfl⟩))
        have hbA := (Below.refl _ w1).alloc (Nat.le_refl _) (.cells (tcells fun _ => 0) 3)
        ((with_reducible refine (M1.out.call _ _ (HV.out.below hbA) (make_ar _)).mono ?_))
        rintro e w2 ⟨u1, rfl, h1', _, hb⟩
        replace HV := Lib.hid ((HV.out.below hbA).below hb)
        replace HB := Lib.hid (bstep HB.out (bstep hbA hb))
        have A1 := Lib.hid h1'
        clear hb hbA h1'
        go_wp2_with fail
        ((with_reducible refine (HSP.out _ HV.out.av).mono ?_))
        rintro e w3 ⟨rfl, hb⟩
        replace HB := Lib.hid (bstep HB.out hb)
        replace A1 := Lib.hid (A1.out.below hb)
        clear hb
        go_wp2_with fail
        ((with_reducible refine (HK.out _ _ A1.out).mono ?_))
        rintro e w4 ⟨rfl, hb⟩
        replace HB := Lib.hid (bstep HB.out hb)
        replace A1 := Lib.hid (A1.out.below hb)
        clear hb
        go_wp2_with fail
        ((with_reducible refine (HC.out _ _ A1.out).mono ?_))
        rintro e w5 ⟨rfl, hb⟩
        replace HB := Lib.hid (bstep HB.out hb)
        clear hb
        go_wp2
        go_ret
        refine ⟨?_, HB.out⟩
        first | rfl | (simp; done) | (simp; omega)
    · rw [if_neg hm] at HK HC
      obtain rfl : f = 31 := by omega
      by_cases h1 : (31 : Int) ≤ line
      · by_cases h2 : line ≤ 31
        · rw [show decide ((31 : Int) ≤ line ∧ line ≤ 31) = true by simp [h1, h2]] at HK
          go_enter Tryd.func5, Tryd.ntmps5
          go_wp2_with (first
            | (go_at_call 10; ((with_reducible refine (shown7_any V _ HV.out).mono ?_)); rintro e w1 ⟨rfl, hb⟩; replace HV := Lib.hid (HV.out.below hb); replace HB := Lib.hid (bstep HB.out hb); clear hb)
            | (go_at_call 17; ((with_reducible refine (make_any _).mono ?_)); rintro e w2 ⟨rfl, rfl⟩))
          have hbA := (Below.refl _ w1).alloc (Nat.le_refl _) (.cells (tcells fun _ => 0) 3)
          ((with_reducible refine (M1.out.call _ _ (HV.out.below hbA) (make_ar _)).mono ?_))
          rintro e w2 ⟨u1, rfl, h1', _, hb⟩
          replace HV := Lib.hid ((HV.out.below hbA).below hb)
          replace HB := Lib.hid (bstep HB.out (bstep hbA hb))
          have A1 := Lib.hid h1'
          clear hb hbA h1'
          go_wp2_with fail
          ((with_reducible refine (HSP.out _ HV.out.av).mono ?_))
          rintro e w3 ⟨rfl, hb⟩
          replace HB := Lib.hid (bstep HB.out hb)
          replace A1 := Lib.hid (A1.out.below hb)
          clear hb
          go_wp2_with fail
          ((with_reducible refine (HK.out _ _ A1.out).mono ?_))
          rintro e w4 ⟨rfl, hb⟩
          replace HB := Lib.hid (bstep HB.out hb)
          replace A1 := Lib.hid (A1.out.below hb)
          clear hb
          go_wp2_with fail
          ((with_reducible refine (HC.out _ _ A1.out).mono ?_))
          rintro e w5 ⟨rfl, hb⟩
          replace HB := Lib.hid (bstep HB.out hb)
          clear hb
          go_wp2
          go_ret
          refine ⟨?_, HB.out⟩
          first | rfl | (simp; done) | (simp; omega)
        · rw [show decide ((31 : Int) ≤ line ∧ line ≤ 31) = false by simp [h2]] at HK
          go_enter Tryd.func5, Tryd.ntmps5
          go_wp2_with (first
            | (go_at_call 10; ((with_reducible refine (shown7_any V _ HV.out).mono ?_)); rintro e w1 ⟨rfl, hb⟩; replace HV := Lib.hid (HV.out.below hb); replace HB := Lib.hid (bstep HB.out hb); clear hb)
            | (go_at_call 17; ((with_reducible refine (make_any _).mono ?_)); rintro e w2 ⟨rfl, rfl⟩))
          have hbA := (Below.refl _ w1).alloc (Nat.le_refl _) (.cells (tcells fun _ => 0) 3)
          ((with_reducible refine (M1.out.call _ _ (HV.out.below hbA) (make_ar _)).mono ?_))
          rintro e w2 ⟨u1, rfl, h1', _, hb⟩
          replace HV := Lib.hid ((HV.out.below hbA).below hb)
          replace HB := Lib.hid (bstep HB.out (bstep hbA hb))
          have A1 := Lib.hid h1'
          clear hb hbA h1'
          go_wp2_with fail
          ((with_reducible refine (HSP.out _ HV.out.av).mono ?_))
          rintro e w3 ⟨rfl, hb⟩
          replace HB := Lib.hid (bstep HB.out hb)
          replace A1 := Lib.hid (A1.out.below hb)
          clear hb
          go_wp2_with fail
          ((with_reducible refine (HK.out _ _ A1.out).mono ?_))
          rintro e w4 ⟨rfl, hb⟩
          replace HB := Lib.hid (bstep HB.out hb)
          replace A1 := Lib.hid (A1.out.below hb)
          clear hb
          go_wp2_with fail
          ((with_reducible refine (HC.out _ _ A1.out).mono ?_))
          rintro e w5 ⟨rfl, hb⟩
          replace HB := Lib.hid (bstep HB.out hb)
          clear hb
          go_wp2
          go_ret
          refine ⟨?_, HB.out⟩
          first | rfl | (simp; done) | (simp; omega)
      · rw [show decide ((31 : Int) ≤ line ∧ line ≤ 31) = false by simp [h1]] at HK
        go_enter Tryd.func5, Tryd.ntmps5
        go_wp2_with (first
          | (go_at_call 10; ((with_reducible refine (shown7_any V _ HV.out).mono ?_)); rintro e w1 ⟨rfl, hb⟩; replace HV := Lib.hid (HV.out.below hb); replace HB := Lib.hid (bstep HB.out hb); clear hb)
          | (go_at_call 17; ((with_reducible refine (make_any _).mono ?_)); rintro e w2 ⟨rfl, rfl⟩))
        have hbA := (Below.refl _ w1).alloc (Nat.le_refl _) (.cells (tcells fun _ => 0) 3)
        ((with_reducible refine (M1.out.call _ _ (HV.out.below hbA) (make_ar _)).mono ?_))
        rintro e w2 ⟨u1, rfl, h1', _, hb⟩
        replace HV := Lib.hid ((HV.out.below hbA).below hb)
        replace HB := Lib.hid (bstep HB.out (bstep hbA hb))
        have A1 := Lib.hid h1'
        clear hb hbA h1'
        go_wp2_with fail
        ((with_reducible refine (HSP.out _ HV.out.av).mono ?_))
        rintro e w3 ⟨rfl, hb⟩
        replace HB := Lib.hid (bstep HB.out hb)
        replace A1 := Lib.hid (A1.out.below hb)
        clear hb
        go_wp2_with fail
        ((with_reducible refine (HK.out _ _ A1.out).mono ?_))
        rintro e w4 ⟨rfl, hb⟩
        replace HB := Lib.hid (bstep HB.out hb)
        replace A1 := Lib.hid (A1.out.below hb)
        clear hb
        go_wp2_with fail
        ((with_reducible refine (HC.out _ _ A1.out).mono ?_))
        rintro e w5 ⟨rfl, hb⟩
        replace HB := Lib.hid (bstep HB.out hb)
        clear hb
        go_wp2
        go_ret
        refine ⟨?_, HB.out⟩
        first | rfl | (simp; done) | (simp; omega)
  · rw [if_neg hn] at HK HC
    by_cases h1 : f ≤ line
    · by_cases h2 : line ≤ l
      · rw [show decide (f ≤ line ∧ line ≤ l) = true by simp [h1, h2]] at HK
        go_enter Tryd.func5, Tryd.ntmps5
        go_wp2_with (first
          | (go_at_call 10; ((with_reducible refine (shown7_any V _ HV.out).mono ?_)); rintro e w1 ⟨rfl, hb⟩; replace HV := Lib.hid (HV.out.below hb); replace HB := Lib.hid (bstep HB.out hb); clear hb)
          | (go_at_call 17; ((with_reducible refine (make_any _).mono ?_)); rintro e w2 ⟨rfl, rfl⟩))
        have hbA := (Below.refl _ w1).alloc (Nat.le_refl _) (.cells (tcells fun _ => 0) 3)
        ((with_reducible refine (M1.out.call _ _ (HV.out.below hbA) (make_ar _)).mono ?_))
        rintro e w2 ⟨u1, rfl, h1', _, hb⟩
        replace HV := Lib.hid ((HV.out.below hbA).below hb)
        replace HB := Lib.hid (bstep HB.out (bstep hbA hb))
        have A1 := Lib.hid h1'
        clear hb hbA h1'
        go_wp2_with fail
        ((with_reducible refine (HSP.out _ HV.out.av).mono ?_))
        rintro e w3 ⟨rfl, hb⟩
        replace HB := Lib.hid (bstep HB.out hb)
        replace A1 := Lib.hid (A1.out.below hb)
        clear hb
        go_wp2_with fail
        ((with_reducible refine (HK.out _ _ A1.out).mono ?_))
        rintro e w4 ⟨rfl, hb⟩
        replace HB := Lib.hid (bstep HB.out hb)
        replace A1 := Lib.hid (A1.out.below hb)
        clear hb
        go_wp2_with fail
        ((with_reducible refine (HC.out _ _ A1.out).mono ?_))
        rintro e w5 ⟨rfl, hb⟩
        replace HB := Lib.hid (bstep HB.out hb)
        clear hb
        go_wp2
        go_ret
        refine ⟨?_, HB.out⟩
        first | rfl | (simp; done) | (simp; omega)
      · rw [show decide (f ≤ line ∧ line ≤ l) = false by simp [h2]] at HK
        go_enter Tryd.func5, Tryd.ntmps5
        go_wp2_with (first
          | (go_at_call 10; ((with_reducible refine (shown7_any V _ HV.out).mono ?_)); rintro e w1 ⟨rfl, hb⟩; replace HV := Lib.hid (HV.out.below hb); replace HB := Lib.hid (bstep HB.out hb); clear hb)
          | (go_at_call 17; ((with_reducible refine (make_any _).mono ?_)); rintro e w2 ⟨rfl, rfl⟩))
        have hbA := (Below.refl _ w1).alloc (Nat.le_refl _) (.cells (tcells fun _ => 0) 3)
        ((with_reducible refine (M1.out.call _ _ (HV.out.below hbA) (make_ar _)).mono ?_))
        rintro e w2 ⟨u1, rfl, h1', _, hb⟩
        replace HV := Lib.hid ((HV.out.below hbA).below hb)
        replace HB := Lib.hid (bstep HB.out (bstep hbA hb))
        have A1 := Lib.hid h1'
        clear hb hbA h1'
        go_wp2_with fail
        ((with_reducible refine (HSP.out _ HV.out.av).mono ?_))
        rintro e w3 ⟨rfl, hb⟩
        replace HB := Lib.hid (bstep HB.out hb)
        replace A1 := Lib.hid (A1.out.below hb)
        clear hb
        go_wp2_with fail
        ((with_reducible refine (HK.out _ _ A1.out).mono ?_))
        rintro e w4 ⟨rfl, hb⟩
        replace HB := Lib.hid (bstep HB.out hb)
        replace A1 := Lib.hid (A1.out.below hb)
        clear hb
        go_wp2_with fail
        ((with_reducible refine (HC.out _ _ A1.out).mono ?_))
        rintro e w5 ⟨rfl, hb⟩
        replace HB := Lib.hid (bstep HB.out hb)
        clear hb
        go_wp2
        go_ret
        refine ⟨?_, HB.out⟩
        first | rfl | (simp; done) | (simp; omega)
    · rw [show decide (f ≤ line ∧ line ≤ l) = false by simp [h1]] at HK
      go_enter Tryd.func5, Tryd.ntmps5
      go_wp2_with (first
        | (go_at_call 10; ((with_reducible refine (shown7_any V _ HV.out).mono ?_)); rintro e w1 ⟨rfl, hb⟩; replace HV := Lib.hid (HV.out.below hb); replace HB := Lib.hid (bstep HB.out hb); clear hb)
        | (go_at_call 17; ((with_reducible refine (make_any _).mono ?_)); rintro e w2 ⟨rfl, rfl⟩))
      have hbA := (Below.refl _ w1).alloc (Nat.le_refl _) (.cells (tcells fun _ => 0) 3)
      ((with_reducible refine (M1.out.call _ _ (HV.out.below hbA) (make_ar _)).mono ?_))
      rintro e w2 ⟨u1, rfl, h1', _, hb⟩
      replace HV := Lib.hid ((HV.out.below hbA).below hb)
      replace HB := Lib.hid (bstep HB.out (bstep hbA hb))
      have A1 := Lib.hid h1'
      clear hb hbA h1'
      go_wp2_with fail
      ((with_reducible refine (HSP.out _ HV.out.av).mono ?_))
      rintro e w3 ⟨rfl, hb⟩
      replace HB := Lib.hid (bstep HB.out hb)
      replace A1 := Lib.hid (A1.out.below hb)
      clear hb
      go_wp2_with fail
      ((with_reducible refine (HK.out _ _ A1.out).mono ?_))
      rintro e w4 ⟨rfl, hb⟩
      replace HB := Lib.hid (bstep HB.out hb)
      replace A1 := Lib.hid (A1.out.below hb)
      clear hb
      go_wp2_with fail
      ((with_reducible refine (HC.out _ _ A1.out).mono ?_))
      rintro e w5 ⟨rfl, hb⟩
      replace HB := Lib.hid (bstep HB.out hb)
      clear hb
      go_wp2
      go_ret
      refine ⟨?_, HB.out⟩
      first | rfl | (simp; done) | (simp; omega)
theorem lawMarksSmall (V : VA) (a n line : Int) (w : World) (hV : MV w V) :
    Calls Tryd.prog 5 #[.int .i64 a, .int .i64 n, .int .i64 line] w fun e w' => e = .returned (.bool true) ∧ Below w.heap.size w w' := by
  by_cases hx : xr a n
  · exact small_good V a n line w hV hx
  · exact small_bad V a n line w hV hx
end Go.Proofs.YtgjhdjfjfmbejaaDoor
