/-
  selionref11: Right, Room, Take, None; selionref01.Round.
-/
import Derived.Test.YtanccoahpcfbnaaDoorBuB
import Derived.Test.YtanccoahpcfbnaaDoorBuC
namespace Go.Proofs.YtanccoahpcfbnaaDoor
open Go.RowKit Go.Lib Go.Shelf Ad
attribute [local go_sem] Oper.semAt_some
set_option linter.unusedSimpArgs false

theorem rsize_t (n : Int) (w : World) (h : 1 ≤ n ∧ n ≤ 131072) : Calls Tryd.prog 49 #[.int .i64 n] w fun e w' => e = .returned (.bool true) ∧ w = w' := by
  obtain ⟨h1, h2⟩ := h
  have b1 : decide (1 ≤ n) = true := by simpa using h1
  have b2 : decide (n ≤ 131072) = true := by simpa using h2
  go_enter Tryd.func49, Tryd.ntmps49
  go_wp2
  go_ret
  exact ⟨rfl, rfl⟩
theorem rsize_f (n : Int) (w : World) (h : n < 1 ∨ 131072 < n) : Calls Tryd.prog 49 #[.int .i64 n] w fun e w' => e = .returned (.bool false) ∧ w = w' := by
  by_cases h1 : n < 1
  · have b1 : decide (1 ≤ n) = false := by simp; omega
    clear h
    go_enter Tryd.func49, Tryd.ntmps49
    go_wp2
    go_ret
    exact ⟨rfl, rfl⟩
  · have b1 : decide (1 ≤ n) = true := by simp; omega
    have b2 : decide (n ≤ 131072) = false := by simp; omega
    clear h
    go_enter Tryd.func49, Tryd.ntmps49
    go_wp2
    go_ret
    exact ⟨rfl, rfl⟩
theorem rround_no (n : Int) (w : World) (h : n < 1 ∨ 131072 < n) : Calls Tryd.prog 33 #[.int .i64 n] w fun e w' => e = .returned (.tuple #[.int .i64 0, .int .i64 11]) ∧ w = w' := by
  have HC := Lib.hid (rsize_f n w h)
  clear h
  go_enter Tryd.func33, Tryd.ntmps33
  go_wp2_with fail
  ((with_reducible refine HC.out.mono ?_))
  rintro e w' ⟨rfl, rfl⟩
  go_wp2
  go_ret2
  exact ⟨rfl, rfl⟩
theorem rround_yes (n : Int) (w : World) (h : 1 ≤ n ∧ n ≤ 131072) : Calls Tryd.prog 33 #[.int .i64 n] w fun e w' => e = .returned (.tuple #[.int .i64 (rnd n), .int .i64 0]) ∧ w = w' := by
  have HC := Lib.hid (rsize_t n w h)
  obtain ⟨h1, h2⟩ := h
  rw [show rnd n = (n + 7) / 8 * 8 by unfold rnd; congr 2; omega]
  go_enter Tryd.func33, Tryd.ntmps33
  go_wp2_with fail
  ((with_reducible refine HC.out.mono ?_))
  rintro e w' ⟨rfl, rfl⟩
  go_wp2
  go_ret2
  exact ⟨rfl, rfl⟩
set_option maxRecDepth 100000 in
set_option maxHeartbeats 1000000 in
theorem rright_m1 (A L : Int) (w : World) : Calls Tryd.prog 13 #[.agg #[.int .i64 (-1), .int .i64 A, .int .i64 L]] w fun e w' => e = .returned (.bool ((A == 0) && (L == 0))) ∧ Below w.heap.size w w' := by
  by_cases h1 : A = 0
  · have b1 : (A == 0) = true := by simpa using h1
    by_cases h2 : L = 0
    · have b2 : (L == 0) = true := by simpa using h2
      rw [b1, b2]
      clear h1 h2
      go_enter Tryd.func13, Tryd.ntmps13
      go_wp2
      go_ret
      exact ⟨rfl, (Below.refl _ _).alloc (Nat.le_refl _) _⟩
    · have b2 : (L == 0) = false := by simpa using h2
      rw [b1, b2]
      clear h1 h2
      go_enter Tryd.func13, Tryd.ntmps13
      go_wp2
      go_ret
      exact ⟨rfl, (Below.refl _ _).alloc (Nat.le_refl _) _⟩
  · have b1 : (A == 0) = false := by simpa using h1
    rw [b1, Bool.false_and]
    clear h1
    go_enter Tryd.func13, Tryd.ntmps13
    go_wp2
    go_ret
    exact ⟨rfl, (Below.refl _ _).alloc (Nat.le_refl _) _⟩
set_option maxRecDepth 100000 in
set_option maxHeartbeats 1000000 in
theorem rright_far (B A L : Int) (w : World) (h0 : B ≠ -1) (h : B < 0 ∨ 32 ≤ B) : Calls Tryd.prog 13 #[.agg #[.int .i64 B, .int .i64 A, .int .i64 L]] w fun e w' => e = .returned (.bool false) ∧ Below w.heap.size w w' := by
  have b0 : (B == -1) = false := by simpa using h0
  clear h0
  by_cases h1 : B < 0
  · have b1 : decide (B < 0) = true := by simpa using h1
    clear h
    go_enter Tryd.func13, Tryd.ntmps13
    go_wp2
    go_ret
    exact ⟨rfl, (Below.refl _ _).alloc (Nat.le_refl _) _⟩
  · have b1 : decide (B < 0) = false := by simpa using h1
    have b2 : decide (32 ≤ B) = true := by simp; omega
    clear h
    go_enter Tryd.func13, Tryd.ntmps13
    go_wp2
    go_ret
    exact ⟨rfl, (Below.refl _ _).alloc (Nat.le_refl _) _⟩
set_option maxRecDepth 100000 in
set_option maxHeartbeats 1000000 in
theorem rright_in (B A L : Int) (w : World) (h0 : 0 ≤ B) (h1 : B < 32) : Calls Tryd.prog 13 #[.agg #[.int .i64 B, .int .i64 A, .int .i64 L]] w fun e w' => e = .returned (.bool (decide (inBk B A L))) ∧ Below w.heap.size w w' := by
  have e1 := tm8_in A
  have e2 := tm8_in L
  have e3 : IntKind.i64.wrap (B * 4096) = B * 4096 := IntWalk.i64_in _ (by omega)
  have e4 : IntKind.i64.wrap (B * 4096 + 4096) = B * 4096 + 4096 := IntWalk.i64_in _ (by omega)
  have z0 : (B == -1) = false := by simp; omega
  have z1 : decide (B < 0) = false := by simp; omega
  have z2 : decide (32 ≤ B) = false := by simp; omega
  rw [← inb_eq B A L h0 h1]
  by_cases k0 : A.tmod 8 = 0
  · have b0 : (A.tmod 8 == 0) = true := by simpa using k0
    clear k0
    by_cases k1 : L.tmod 8 = 0
    · have b1 : (L.tmod 8 == 0) = true := by simpa using k1
      clear k1
      by_cases k2 : B * 4096 ≤ A
      · have b2 : decide (B * 4096 ≤ A) = true := by simpa using k2
        clear k2
        by_cases k3 : A ≤ L
        · have b3 : decide (A ≤ L) = true := by simpa using k3
          clear k3
          by_cases k4 : L ≤ B * 4096 + 4096
          · have b4 : decide (L ≤ B * 4096 + 4096) = true := by simpa using k4
            clear k4
            rw [b0, b1, b2, b3, b4]
            go_enter Tryd.func13, Tryd.ntmps13
            go_wp2
            go_ret
            exact ⟨rfl, (Below.refl _ _).alloc (Nat.le_refl _) _⟩
          · have b4 : decide (L ≤ B * 4096 + 4096) = false := by simpa using k4
            clear k4
            rw [b0, b1, b2, b3, b4]
            simp only [Bool.true_and]
            go_enter Tryd.func13, Tryd.ntmps13
            go_wp2
            go_ret
            exact ⟨rfl, (Below.refl _ _).alloc (Nat.le_refl _) _⟩
        · have b3 : decide (A ≤ L) = false := by simpa using k3
          clear k3
          rw [b0, b1, b2, b3]
          simp only [Bool.false_and, Bool.true_and]
          go_enter Tryd.func13, Tryd.ntmps13
          go_wp2
          go_ret
          exact ⟨rfl, (Below.refl _ _).alloc (Nat.le_refl _) _⟩
      · have b2 : decide (B * 4096 ≤ A) = false := by simpa using k2
        clear k2
        rw [b0, b1, b2]
        simp only [Bool.false_and, Bool.true_and]
        go_enter Tryd.func13, Tryd.ntmps13
        go_wp2
        go_ret
        exact ⟨rfl, (Below.refl _ _).alloc (Nat.le_refl _) _⟩
    · have b1 : (L.tmod 8 == 0) = false := by simpa using k1
      clear k1
      rw [b0, b1]
      simp only [Bool.false_and, Bool.true_and]
      go_enter Tryd.func13, Tryd.ntmps13
      go_wp2
      go_ret
      exact ⟨rfl, (Below.refl _ _).alloc (Nat.le_refl _) _⟩
  · have b0 : (A.tmod 8 == 0) = false := by simpa using k0
    clear k0
    rw [b0]
    simp only [Bool.false_and]
    go_enter Tryd.func13, Tryd.ntmps13
    go_wp2
    go_ret
    exact ⟨rfl, (Below.refl _ _).alloc (Nat.le_refl _) _⟩
theorem rright_any (B A L : Int) (w : World) : Calls Tryd.prog 13 #[.agg #[.int .i64 B, .int .i64 A, .int .i64 L]] w fun e w' => e = .returned (.bool (decide (rightC B A L))) ∧ Below w.heap.size w w' := by
  by_cases h : B = -1
  · subst h
    have e : decide (rightC (-1) A L) = ((A == 0) && (L == 0)) := by
      rw [Bool.eq_iff_iff]
      simp only [decide_eq_true_eq, Bool.and_eq_true, beq_iff_eq]
      constructor
      · rintro (⟨_, h1, h2⟩ | ⟨h1, _⟩)
        · exact ⟨h1, h2⟩
        · omega
      · exact fun k => .inl ⟨rfl, k.1, k.2⟩
    rw [e]
    exact rright_m1 A L w
  · have e : decide (rightC B A L) = decide (inBk B A L) := by
      rw [Bool.eq_iff_iff]
      simp only [decide_eq_true_eq]
      exact ⟨fun k => k.resolve_left (fun i => h i.1), .inr⟩
    rw [e]
    by_cases h2 : B < 0 ∨ 32 ≤ B
    · rw [decide_eq_false (show ¬ inBk B A L from fun k => by have := k.1; have := k.2.1; omega)]
      exact rright_far B A L w h h2
    · exact rright_in B A L w (by omega) (by omega)
theorem rright_t11 (B A L : Int) (w : World) (h : rightC B A L) : Calls Tryd.prog 13 #[.agg #[.int .i64 B, .int .i64 A, .int .i64 L]] w fun e w' => e = .returned (.bool true) ∧ Below w.heap.size w w' := by
  have := rright_any B A L w
  rwa [decide_eq_true h] at this
theorem rright_f11 (B A L : Int) (w : World) (h : ¬ rightC B A L) : Calls Tryd.prog 13 #[.agg #[.int .i64 B, .int .i64 A, .int .i64 L]] w fun e w' => e = .returned (.bool false) ∧ Below w.heap.size w w' := by
  have := rright_any B A L w
  rwa [decide_eq_false h] at this
theorem rnone_any (w : World) :
    Calls Tryd.prog 17 #[] w fun e w' => e = .returned (.agg #[.int .i64 (-1), .int .i64 0, .int .i64 0]) ∧ w.alloc (.cells #[.int .i64 (-1), .int .i64 0, .int .i64 0] 23) = w' := by
  go_enter Tryd.func17, Tryd.ntmps17
  go_wp2
  exact bodyPost_ret (v := .agg #[.int .i64 (-1), .int .i64 0, .int .i64 0]) (by simp [results, Tryd.results17, go_sem]) rfl ⟨rfl, rfl⟩
theorem rroom_any (B A L : Int) (w : World) :
    Calls Tryd.prog 15 #[.agg #[.int .i64 B, .int .i64 A, .int .i64 L]] w fun e w' => e = .returned (.int .i64 (roomC B A L)) ∧ Below w.heap.size w w' := by
  obtain ⟨b0, hB, hs⟩ := blk1 w #[.int .i64 B, .int .i64 A, .int .i64 L] 23
  by_cases h : rightC B A L
  · obtain ⟨h1, h2, h3⟩ := rightC_le h
    rw [roomC, if_pos h]
    have HR := Lib.hid (rright_t11 B A L (w.alloc (.cells #[.int .i64 B, .int .i64 A, .int .i64 L] 23)) h)
    have HB := Lib.hid hB
    have B0 := Lib.hid b0
    clear b0 hB hs h
    go_enter Tryd.func15, Tryd.ntmps15
    go_wp2_with fail
    ((with_reducible refine HR.out.mono ?_))
    rintro e w1 ⟨rfl, hb⟩
    have bb := B0.out.below' hb
    have c1 : w1.cell? ⟨w.heap.size, 1, none⟩ = some (.int .i64 A) := bb.cell rfl
    have c2 : w1.cell? ⟨w.heap.size, 2, none⟩ = some (.int .i64 L) := bb.cell rfl
    have HB1 := Lib.hid (bstep HB.out hb)
    clear hb bb
    go_wp2
    go_ret
    exact ⟨rfl, HB1.out⟩
  · rw [roomC, if_neg h]
    have HR := Lib.hid (rright_f11 B A L (w.alloc (.cells #[.int .i64 B, .int .i64 A, .int .i64 L] 23)) h)
    have HB := Lib.hid hB
    clear b0 hB hs h
    go_enter Tryd.func15, Tryd.ntmps15
    go_wp2_with fail
    ((with_reducible refine HR.out.mono ?_))
    rintro e w1 ⟨rfl, hb⟩
    have HB1 := Lib.hid (bstep HB.out hb)
    clear hb
    go_wp2
    go_ret
    exact ⟨rfl, HB1.out⟩
theorem rroom_t (B A L : Int) (w : World) (h : rightC B A L) : Calls Tryd.prog 15 #[.agg #[.int .i64 B, .int .i64 A, .int .i64 L]] w fun e w' => e = .returned (.int .i64 (L - A)) ∧ Below w.heap.size w w' := by
  have := rroom_any B A L w
  rwa [roomC, if_pos h] at this
set_option maxRecDepth 100000 in
set_option maxHeartbeats 1000000 in
theorem rtake_yes (B A L n : Int) (w : World) (h : okT B A L n) :
    Calls Tryd.prog 11 #[.agg #[.int .i64 B, .int .i64 A, .int .i64 L], .int .i64 n] w fun e w' => e = .returned (.tuple #[.agg #[.int .i64 B, .int .i64 (A + rnd n), .int .i64 L], .int .i64 A, .bool true]) ∧ Below w.heap.size w w' := by
  obtain ⟨b0, b1, hB, hs⟩ := blk2 w #[.int .i64 B, .int .i64 A, .int .i64 L] #[.int .i64 0, .int .i64 0, .int .i64 0] 23 23
  obtain ⟨h1, h2, h3⟩ := h
  obtain ⟨k1, k2, k3⟩ := rightC_le h1
  obtain ⟨k4, k5, _⟩ := rnd_in h2
  rw [roomC, if_pos h1] at h3
  have HRt := Lib.hid h1
  have HRd := Lib.hid (fun W => rround_yes n W h2)
  generalize rnd n = m at HRd h3 k4 k5 ⊢
  have e9 : IntKind.i64.wrap (A + m) = A + m := IntWalk.i64_in _ (by omega)
  clear h1
  have HB := Lib.hid hB
  have B0 := Lib.hid b0
  have B1 := Lib.hid b1
  have c0 : ((w.alloc (.cells #[.int .i64 B, .int .i64 A, .int .i64 L] 23)).alloc (.cells #[.int .i64 0, .int .i64 0, .int .i64 0] 23)).cell? ⟨w.heap.size, 0, none⟩ = some (.int .i64 B) := b0.cell rfl
  have c1 : ((w.alloc (.cells #[.int .i64 B, .int .i64 A, .int .i64 L] 23)).alloc (.cells #[.int .i64 0, .int .i64 0, .int .i64 0] 23)).cell? ⟨w.heap.size, 1, none⟩ = some (.int .i64 A) := b0.cell rfl
  have c2 : ((w.alloc (.cells #[.int .i64 B, .int .i64 A, .int .i64 L] 23)).alloc (.cells #[.int .i64 0, .int .i64 0, .int .i64 0] 23)).cell? ⟨w.heap.size, 2, none⟩ = some (.int .i64 L) := b0.cell rfl
  clear b0 b1 hB hs
  go_enter Tryd.func11, Tryd.ntmps11
  go_wp2_with fail
  generalize ((w.alloc (.cells #[.int .i64 B, .int .i64 A, .int .i64 L] 23)).alloc (.cells #[.int .i64 0, .int .i64 0, .int .i64 0] 23)) = w1 at HB B0 B1 c0 c1 c2 ⊢
  ((with_reducible refine (HRd.out w1).mono ?_))
  rintro e w' ⟨rfl, rfl⟩
  go_wp2_with fail
  ((with_reducible refine (rright_t11 B A L w1 HRt.out).mono ?_))
  rintro e w2 ⟨rfl, hb⟩
  replace HB := Lib.hid (bstep HB.out hb)
  replace B0 := Lib.hid (B0.out.below' hb)
  replace B1 := Lib.hid (B1.out.below' hb)
  clear hb c0 c1 c2
  have c0 : w2.cell? ⟨w.heap.size, 0, none⟩ = some (.int .i64 B) := B0.out.cell rfl
  have c1 : w2.cell? ⟨w.heap.size, 1, none⟩ = some (.int .i64 A) := B0.out.cell rfl
  have c2 : w2.cell? ⟨w.heap.size, 2, none⟩ = some (.int .i64 L) := B0.out.cell rfl
  go_wp2_with fail
  ((with_reducible refine (rroom_t B A L w2 HRt.out).mono ?_))
  rintro e w3 ⟨rfl, hb⟩
  replace HB := Lib.hid (bstep HB.out hb)
  replace B0 := Lib.hid (B0.out.below' hb)
  replace B1 := Lib.hid (B1.out.below' hb)
  clear hb c0 c1 c2
  have c0 : w3.cell? ⟨w.heap.size, 0, none⟩ = some (.int .i64 B) := B0.out.cell rfl
  have c1 : w3.cell? ⟨w.heap.size, 1, none⟩ = some (.int .i64 A) := B0.out.cell rfl
  have c2 : w3.cell? ⟨w.heap.size, 2, none⟩ = some (.int .i64 L) := B0.out.cell rfl
  have p0 : w3.cell? ⟨w.heap.size + 1, 0, none⟩ = some (.int .i64 0) := B1.out.cell rfl
  have q0 := B1.out.frozen 0
  have p1 : w3.cell? ⟨w.heap.size + 1, 1, none⟩ = some (.int .i64 0) := B1.out.cell rfl
  have q1 := B1.out.frozen 1
  have p2 : w3.cell? ⟨w.heap.size + 1, 2, none⟩ = some (.int .i64 0) := B1.out.cell rfl
  have q2 := B1.out.frozen 2
  have hlt := B1.out.lt
  go_wp2
  go_region
  go_wp2
  refine bodyPost_ret (v := .tuple #[.agg #[.int .i64 B, .int .i64 (A + m), .int .i64 L], .int .i64 A, .bool true]) (by simp [results, Tryd.results11, go_sem, p0, p1, p2, hlt]) rfl ⟨rfl, ?_⟩
  repeat (with_reducible first | exact HB.out | refine bel_al ?_ _ | refine bel_set ?_ (by omega) | refine bel_dr ?_)
set_option maxRecDepth 100000 in
set_option maxHeartbeats 1000000 in
theorem rtake_noR (B A L n : Int) (w : World) (h : ¬ rightC B A L) (h2 : 1 ≤ n ∧ n ≤ 131072) :
    Calls Tryd.prog 11 #[.agg #[.int .i64 B, .int .i64 A, .int .i64 L], .int .i64 n] w fun e w' => e = .returned (.tuple #[.agg #[.int .i64 0, .int .i64 0, .int .i64 0], .int .i64 0, .bool false]) ∧ Below w.heap.size w w' := by
  obtain ⟨b0, b1, hB, hs⟩ := blk2 w #[.int .i64 B, .int .i64 A, .int .i64 L] #[.int .i64 0, .int .i64 0, .int .i64 0] 23 23
  have HRt := Lib.hid h
  have HRd := Lib.hid (fun W => rround_yes n W h2)
  clear h
  have HB := Lib.hid hB
  have B0 := Lib.hid b0
  have B1 := Lib.hid b1
  have c0 : ((w.alloc (.cells #[.int .i64 B, .int .i64 A, .int .i64 L] 23)).alloc (.cells #[.int .i64 0, .int .i64 0, .int .i64 0] 23)).cell? ⟨w.heap.size, 0, none⟩ = some (.int .i64 B) := b0.cell rfl
  have c1 : ((w.alloc (.cells #[.int .i64 B, .int .i64 A, .int .i64 L] 23)).alloc (.cells #[.int .i64 0, .int .i64 0, .int .i64 0] 23)).cell? ⟨w.heap.size, 1, none⟩ = some (.int .i64 A) := b0.cell rfl
  have c2 : ((w.alloc (.cells #[.int .i64 B, .int .i64 A, .int .i64 L] 23)).alloc (.cells #[.int .i64 0, .int .i64 0, .int .i64 0] 23)).cell? ⟨w.heap.size, 2, none⟩ = some (.int .i64 L) := b0.cell rfl
  clear b0 b1 hB hs
  go_enter Tryd.func11, Tryd.ntmps11
  go_wp2_with fail
  generalize ((w.alloc (.cells #[.int .i64 B, .int .i64 A, .int .i64 L] 23)).alloc (.cells #[.int .i64 0, .int .i64 0, .int .i64 0] 23)) = w1 at HB B0 B1 c0 c1 c2 ⊢
  ((with_reducible refine (HRd.out w1).mono ?_))
  rintro e w' ⟨rfl, rfl⟩
  go_wp2_with fail
  ((with_reducible refine (rright_f11 B A L w1 HRt.out).mono ?_))
  rintro e w2 ⟨rfl, hb⟩
  replace HB := Lib.hid (bstep HB.out hb)
  replace B0 := Lib.hid (B0.out.below' hb)
  replace B1 := Lib.hid (B1.out.below' hb)
  clear hb c0 c1 c2
  have c0 : w2.cell? ⟨w.heap.size, 0, none⟩ = some (.int .i64 B) := B0.out.cell rfl
  have c1 : w2.cell? ⟨w.heap.size, 1, none⟩ = some (.int .i64 A) := B0.out.cell rfl
  have c2 : w2.cell? ⟨w.heap.size, 2, none⟩ = some (.int .i64 L) := B0.out.cell rfl
  have p0 : w2.cell? ⟨w.heap.size + 1, 0, none⟩ = some (.int .i64 0) := B1.out.cell rfl
  have q0 := B1.out.frozen 0
  have p1 : w2.cell? ⟨w.heap.size + 1, 1, none⟩ = some (.int .i64 0) := B1.out.cell rfl
  have q1 := B1.out.frozen 1
  have p2 : w2.cell? ⟨w.heap.size + 1, 2, none⟩ = some (.int .i64 0) := B1.out.cell rfl
  have q2 := B1.out.frozen 2
  have hlt := B1.out.lt
  go_wp2
  refine bodyPost_ret (v := .tuple #[.agg #[.int .i64 0, .int .i64 0, .int .i64 0], .int .i64 0, .bool false]) (by simp [results, Tryd.results11, go_sem, p0, p1, p2, hlt]) rfl ⟨rfl, ?_⟩
  repeat (with_reducible first | exact HB.out | refine bel_al ?_ _ | refine bel_set ?_ (by omega) | refine bel_dr ?_)
set_option maxRecDepth 100000 in
set_option maxHeartbeats 1000000 in
theorem rtake_noRn (B A L n : Int) (w : World) (h : ¬ rightC B A L) (h2 : n < 1 ∨ 131072 < n) :
    Calls Tryd.prog 11 #[.agg #[.int .i64 B, .int .i64 A, .int .i64 L], .int .i64 n] w fun e w' => e = .returned (.tuple #[.agg #[.int .i64 0, .int .i64 0, .int .i64 0], .int .i64 0, .bool false]) ∧ Below w.heap.size w w' := by
  obtain ⟨b0, b1, hB, hs⟩ := blk2 w #[.int .i64 B, .int .i64 A, .int .i64 L] #[.int .i64 0, .int .i64 0, .int .i64 0] 23 23
  have HRt := Lib.hid h
  have HRd := Lib.hid (fun W => rround_no n W h2)
  clear h
  have HB := Lib.hid hB
  have B0 := Lib.hid b0
  have B1 := Lib.hid b1
  have c0 : ((w.alloc (.cells #[.int .i64 B, .int .i64 A, .int .i64 L] 23)).alloc (.cells #[.int .i64 0, .int .i64 0, .int .i64 0] 23)).cell? ⟨w.heap.size, 0, none⟩ = some (.int .i64 B) := b0.cell rfl
  have c1 : ((w.alloc (.cells #[.int .i64 B, .int .i64 A, .int .i64 L] 23)).alloc (.cells #[.int .i64 0, .int .i64 0, .int .i64 0] 23)).cell? ⟨w.heap.size, 1, none⟩ = some (.int .i64 A) := b0.cell rfl
  have c2 : ((w.alloc (.cells #[.int .i64 B, .int .i64 A, .int .i64 L] 23)).alloc (.cells #[.int .i64 0, .int .i64 0, .int .i64 0] 23)).cell? ⟨w.heap.size, 2, none⟩ = some (.int .i64 L) := b0.cell rfl
  clear b0 b1 hB hs
  go_enter Tryd.func11, Tryd.ntmps11
  go_wp2_with fail
  generalize ((w.alloc (.cells #[.int .i64 B, .int .i64 A, .int .i64 L] 23)).alloc (.cells #[.int .i64 0, .int .i64 0, .int .i64 0] 23)) = w1 at HB B0 B1 c0 c1 c2 ⊢
  ((with_reducible refine (HRd.out w1).mono ?_))
  rintro e w' ⟨rfl, rfl⟩
  go_wp2_with fail
  ((with_reducible refine (rright_f11 B A L w1 HRt.out).mono ?_))
  rintro e w2 ⟨rfl, hb⟩
  replace HB := Lib.hid (bstep HB.out hb)
  replace B0 := Lib.hid (B0.out.below' hb)
  replace B1 := Lib.hid (B1.out.below' hb)
  clear hb c0 c1 c2
  have c0 : w2.cell? ⟨w.heap.size, 0, none⟩ = some (.int .i64 B) := B0.out.cell rfl
  have c1 : w2.cell? ⟨w.heap.size, 1, none⟩ = some (.int .i64 A) := B0.out.cell rfl
  have c2 : w2.cell? ⟨w.heap.size, 2, none⟩ = some (.int .i64 L) := B0.out.cell rfl
  have p0 : w2.cell? ⟨w.heap.size + 1, 0, none⟩ = some (.int .i64 0) := B1.out.cell rfl
  have q0 := B1.out.frozen 0
  have p1 : w2.cell? ⟨w.heap.size + 1, 1, none⟩ = some (.int .i64 0) := B1.out.cell rfl
  have q1 := B1.out.frozen 1
  have p2 : w2.cell? ⟨w.heap.size + 1, 2, none⟩ = some (.int .i64 0) := B1.out.cell rfl
  have q2 := B1.out.frozen 2
  have hlt := B1.out.lt
  go_wp2
  refine bodyPost_ret (v := .tuple #[.agg #[.int .i64 0, .int .i64 0, .int .i64 0], .int .i64 0, .bool false]) (by simp [results, Tryd.results11, go_sem, p0, p1, p2, hlt]) rfl ⟨rfl, ?_⟩
  repeat (with_reducible first | exact HB.out | refine bel_al ?_ _ | refine bel_set ?_ (by omega) | refine bel_dr ?_)
set_option maxRecDepth 100000 in
set_option maxHeartbeats 1000000 in
theorem rtake_noN (B A L n : Int) (w : World) (h : rightC B A L) (h2 : n < 1 ∨ 131072 < n) :
    Calls Tryd.prog 11 #[.agg #[.int .i64 B, .int .i64 A, .int .i64 L], .int .i64 n] w fun e w' => e = .returned (.tuple #[.agg #[.int .i64 0, .int .i64 0, .int .i64 0], .int .i64 0, .bool false]) ∧ Below w.heap.size w w' := by
  obtain ⟨b0, b1, hB, hs⟩ := blk2 w #[.int .i64 B, .int .i64 A, .int .i64 L] #[.int .i64 0, .int .i64 0, .int .i64 0] 23 23
  have HRt := Lib.hid h
  have HRd := Lib.hid (fun W => rround_no n W h2)
  clear h
  have HB := Lib.hid hB
  have B0 := Lib.hid b0
  have B1 := Lib.hid b1
  have c0 : ((w.alloc (.cells #[.int .i64 B, .int .i64 A, .int .i64 L] 23)).alloc (.cells #[.int .i64 0, .int .i64 0, .int .i64 0] 23)).cell? ⟨w.heap.size, 0, none⟩ = some (.int .i64 B) := b0.cell rfl
  have c1 : ((w.alloc (.cells #[.int .i64 B, .int .i64 A, .int .i64 L] 23)).alloc (.cells #[.int .i64 0, .int .i64 0, .int .i64 0] 23)).cell? ⟨w.heap.size, 1, none⟩ = some (.int .i64 A) := b0.cell rfl
  have c2 : ((w.alloc (.cells #[.int .i64 B, .int .i64 A, .int .i64 L] 23)).alloc (.cells #[.int .i64 0, .int .i64 0, .int .i64 0] 23)).cell? ⟨w.heap.size, 2, none⟩ = some (.int .i64 L) := b0.cell rfl
  clear b0 b1 hB hs
  go_enter Tryd.func11, Tryd.ntmps11
  go_wp2_with fail
  generalize ((w.alloc (.cells #[.int .i64 B, .int .i64 A, .int .i64 L] 23)).alloc (.cells #[.int .i64 0, .int .i64 0, .int .i64 0] 23)) = w1 at HB B0 B1 c0 c1 c2 ⊢
  ((with_reducible refine (HRd.out w1).mono ?_))
  rintro e w' ⟨rfl, rfl⟩
  go_wp2_with fail
  ((with_reducible refine (rright_t11 B A L w1 HRt.out).mono ?_))
  rintro e w2 ⟨rfl, hb⟩
  replace HB := Lib.hid (bstep HB.out hb)
  replace B0 := Lib.hid (B0.out.below' hb)
  replace B1 := Lib.hid (B1.out.below' hb)
  clear hb c0 c1 c2
  have c0 : w2.cell? ⟨w.heap.size, 0, none⟩ = some (.int .i64 B) := B0.out.cell rfl
  have c1 : w2.cell? ⟨w.heap.size, 1, none⟩ = some (.int .i64 A) := B0.out.cell rfl
  have c2 : w2.cell? ⟨w.heap.size, 2, none⟩ = some (.int .i64 L) := B0.out.cell rfl
  have p0 : w2.cell? ⟨w.heap.size + 1, 0, none⟩ = some (.int .i64 0) := B1.out.cell rfl
  have q0 := B1.out.frozen 0
  have p1 : w2.cell? ⟨w.heap.size + 1, 1, none⟩ = some (.int .i64 0) := B1.out.cell rfl
  have q1 := B1.out.frozen 1
  have p2 : w2.cell? ⟨w.heap.size + 1, 2, none⟩ = some (.int .i64 0) := B1.out.cell rfl
  have q2 := B1.out.frozen 2
  have hlt := B1.out.lt
  go_wp2
  refine bodyPost_ret (v := .tuple #[.agg #[.int .i64 0, .int .i64 0, .int .i64 0], .int .i64 0, .bool false]) (by simp [results, Tryd.results11, go_sem, p0, p1, p2, hlt]) rfl ⟨rfl, ?_⟩
  repeat (with_reducible first | exact HB.out | refine bel_al ?_ _ | refine bel_set ?_ (by omega) | refine bel_dr ?_)
set_option maxRecDepth 100000 in
set_option maxHeartbeats 1000000 in
theorem rtake_noM (B A L n : Int) (w : World) (h1 : rightC B A L) (h2 : 1 ≤ n ∧ n ≤ 131072) (h3 : roomC B A L < rnd n) :
    Calls Tryd.prog 11 #[.agg #[.int .i64 B, .int .i64 A, .int .i64 L], .int .i64 n] w fun e w' => e = .returned (.tuple #[.agg #[.int .i64 0, .int .i64 0, .int .i64 0], .int .i64 0, .bool false]) ∧ Below w.heap.size w w' := by
  obtain ⟨b0, b1, hB, hs⟩ := blk2 w #[.int .i64 B, .int .i64 A, .int .i64 L] #[.int .i64 0, .int .i64 0, .int .i64 0] 23 23
  have HRt := Lib.hid h1
  have HRd := Lib.hid (fun W => rround_yes n W h2)
  generalize rnd n = m at HRd h3
  clear h1
  have HB := Lib.hid hB
  have B0 := Lib.hid b0
  have B1 := Lib.hid b1
  have c0 : ((w.alloc (.cells #[.int .i64 B, .int .i64 A, .int .i64 L] 23)).alloc (.cells #[.int .i64 0, .int .i64 0, .int .i64 0] 23)).cell? ⟨w.heap.size, 0, none⟩ = some (.int .i64 B) := b0.cell rfl
  have c1 : ((w.alloc (.cells #[.int .i64 B, .int .i64 A, .int .i64 L] 23)).alloc (.cells #[.int .i64 0, .int .i64 0, .int .i64 0] 23)).cell? ⟨w.heap.size, 1, none⟩ = some (.int .i64 A) := b0.cell rfl
  have c2 : ((w.alloc (.cells #[.int .i64 B, .int .i64 A, .int .i64 L] 23)).alloc (.cells #[.int .i64 0, .int .i64 0, .int .i64 0] 23)).cell? ⟨w.heap.size, 2, none⟩ = some (.int .i64 L) := b0.cell rfl
  clear b0 b1 hB hs
  go_enter Tryd.func11, Tryd.ntmps11
  go_wp2_with fail
  generalize ((w.alloc (.cells #[.int .i64 B, .int .i64 A, .int .i64 L] 23)).alloc (.cells #[.int .i64 0, .int .i64 0, .int .i64 0] 23)) = w1 at HB B0 B1 c0 c1 c2 ⊢
  ((with_reducible refine (HRd.out w1).mono ?_))
  rintro e w' ⟨rfl, rfl⟩
  go_wp2_with fail
  ((with_reducible refine (rright_t11 B A L w1 HRt.out).mono ?_))
  rintro e w2 ⟨rfl, hb⟩
  replace HB := Lib.hid (bstep HB.out hb)
  replace B0 := Lib.hid (B0.out.below' hb)
  replace B1 := Lib.hid (B1.out.below' hb)
  clear hb c0 c1 c2
  have c0 : w2.cell? ⟨w.heap.size, 0, none⟩ = some (.int .i64 B) := B0.out.cell rfl
  have c1 : w2.cell? ⟨w.heap.size, 1, none⟩ = some (.int .i64 A) := B0.out.cell rfl
  have c2 : w2.cell? ⟨w.heap.size, 2, none⟩ = some (.int .i64 L) := B0.out.cell rfl
  go_wp2_with fail
  ((with_reducible refine (rroom_any B A L w2).mono ?_))
  rintro e w3 ⟨rfl, hb⟩
  replace HB := Lib.hid (bstep HB.out hb)
  replace B0 := Lib.hid (B0.out.below' hb)
  replace B1 := Lib.hid (B1.out.below' hb)
  clear hb c0 c1 c2
  have c0 : w3.cell? ⟨w.heap.size, 0, none⟩ = some (.int .i64 B) := B0.out.cell rfl
  have c1 : w3.cell? ⟨w.heap.size, 1, none⟩ = some (.int .i64 A) := B0.out.cell rfl
  have c2 : w3.cell? ⟨w.heap.size, 2, none⟩ = some (.int .i64 L) := B0.out.cell rfl
  have p0 : w3.cell? ⟨w.heap.size + 1, 0, none⟩ = some (.int .i64 0) := B1.out.cell rfl
  have q0 := B1.out.frozen 0
  have p1 : w3.cell? ⟨w.heap.size + 1, 1, none⟩ = some (.int .i64 0) := B1.out.cell rfl
  have q1 := B1.out.frozen 1
  have p2 : w3.cell? ⟨w.heap.size + 1, 2, none⟩ = some (.int .i64 0) := B1.out.cell rfl
  have q2 := B1.out.frozen 2
  have hlt := B1.out.lt
  go_wp2
  refine bodyPost_ret (v := .tuple #[.agg #[.int .i64 0, .int .i64 0, .int .i64 0], .int .i64 0, .bool false]) (by simp [results, Tryd.results11, go_sem, p0, p1, p2, hlt]) rfl ⟨rfl, ?_⟩
  repeat (with_reducible first | exact HB.out | refine bel_al ?_ _ | refine bel_set ?_ (by omega) | refine bel_dr ?_)
theorem rtake_no (B A L n : Int) (w : World) (h : ¬ okT B A L n) :
    Calls Tryd.prog 11 #[.agg #[.int .i64 B, .int .i64 A, .int .i64 L], .int .i64 n] w fun e w' => e = .returned (.tuple #[.agg #[.int .i64 0, .int .i64 0, .int .i64 0], .int .i64 0, .bool false]) ∧ Below w.heap.size w w' := by
  by_cases h1 : rightC B A L
  · by_cases h2 : 1 ≤ n ∧ n ≤ 131072
    · exact rtake_noM B A L n w h1 h2 (Int.not_le.1 (fun k => h ⟨h1, h2, k⟩))
    · exact rtake_noN B A L n w h1 (by omega)
  · by_cases h2 : 1 ≤ n ∧ n ≤ 131072
    · exact rtake_noR B A L n w h1 h2
    · exact rtake_noRn B A L n w h1 (by omega)
end Go.Proofs.YtanccoahpcfbnaaDoor
