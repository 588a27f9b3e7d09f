/-
  selionlaw11.BumpApart, for every input.
-/
import Derived.Test.YtanccoahpcfbnaaDoorBuF
namespace Go.Proofs.YtanccoahpcfbnaaDoor
open Go.RowKit Go.Lib Go.Shelf Ad
attribute [local go_sem] Oper.semAt_some
set_option linter.unusedSimpArgs false
set_option linter.unusedVariables false

theorem okT_in {B A L n : Int} (h : okT B A L n) : inBk B A L ∧ A + rnd n ≤ L ∧ inBk B (A + rnd n) L := by
  obtain ⟨h1, h2, h3⟩ := h
  obtain ⟨k1, k2, k3, k4, k5⟩ := rnd_in h2
  rw [roomC, if_pos h1] at h3
  rcases h1 with ⟨i1, i2, i3⟩ | h1
  · omega
  · obtain ⟨j1, j2, j3, j4, j5, j6, j7⟩ := h1
    refine ⟨⟨j1, j2, j3, j4, j5, j6, j7⟩, by omega, j1, j2, by omega, j4, by omega, by omega, j7⟩
set_option maxRecDepth 100000 in
set_option maxHeartbeats 2000000 in
theorem lawBumpApart_no (B A L n m : Int) (w : World) (aA aS aR : Addr) (hV : AV w aA aS aR) (h : ¬ okT B A L n) : Calls Tryd.prog 4 #[.agg #[.int .i64 B, .int .i64 A, .int .i64 L], .int .i64 n, .int .i64 m] w fun e w' => e = .returned (.bool true) ∧ Below w.heap.size w w' := by
  have HS := Lib.hid (fun W (hW : Below w.heap.size w W) => shown11 W aA aS aR (hV.below hW))
  have T1 := Lib.hid (fun W (hW : Below w.heap.size w W) => take_no B A L n W aA aS aR (hV.below hW) h)
  clear hV h
  have HB := Lib.hid (Below.refl w.heap.size w)
  go_enter Tryd.func4, Tryd.ntmps4
  have HB := Lib.hid (bel_al HB.out (.cells #[.int .i64 B, .int .i64 A, .int .i64 L] 23))
  have KC := Lib.hid (Blk.new w #[.int .i64 B, .int .i64 A, .int .i64 L] 23)
  go_wp2_with fail
  generalize w.alloc (.cells #[.int .i64 B, .int .i64 A, .int .i64 L] 23) = v1 at HB KC ⊢
  ((with_reducible refine (HS.out v1 HB.out).mono ?_))
  rintro e u2 ⟨rfl, hb⟩
  have HB := Lib.hid (bstep HB.out hb)
  have KC := Lib.hid (KC.out.below' hb)
  clear hb
  have ltKC := KC.out.lt
  have cKC0 : u2.cell? ⟨w.heap.size, 0, none⟩ = some (.int .i64 B) := KC.out.cell rfl
  have cKC1 : u2.cell? ⟨w.heap.size, 1, none⟩ = some (.int .i64 A) := KC.out.cell rfl
  have cKC2 : u2.cell? ⟨w.heap.size, 2, none⟩ = some (.int .i64 L) := KC.out.cell rfl
  go_wp2_with fail
  clear ltKC cKC0 cKC1 cKC2
  ((with_reducible refine (T1.out u2 HB.out).mono ?_))
  rintro e u3 ⟨rfl, hb⟩
  have HB := Lib.hid (bstep HB.out hb)
  have KC := Lib.hid (KC.out.below' hb)
  clear hb
  go_wp2
  go_ret
  exact ⟨rfl, bel_al HB.out _⟩
set_option maxRecDepth 100000 in
set_option maxHeartbeats 2000000 in
theorem lawBumpApart_yy (B A L n m : Int) (w : World) (aA aS aR : Addr) (hV : AV w aA aS aR) (h : okT B A L n) (h2 : okT B (A + rnd n) L m) : Calls Tryd.prog 4 #[.agg #[.int .i64 B, .int .i64 A, .int .i64 L], .int .i64 n, .int .i64 m] w fun e w' => e = .returned (.bool true) ∧ Below w.heap.size w w' := by
  have HS := Lib.hid (fun W (hW : Below w.heap.size w W) => shown11 W aA aS aR (hV.below hW))
  obtain ⟨i1, i2, i3⟩ := okT_in h
  have hn := h.2.1
  obtain ⟨q1, q2, _⟩ := rnd_in hn
  have T1 := Lib.hid (fun W (hW : Below w.heap.size w W) => take_yes B A L n W aA aS aR (hV.below hW) h)
  have RD := Lib.hid (fun W (hW : Below w.heap.size w W) => round_yes n W aA aS aR (hV.below hW) hn.1 hn.2)
  rw [show (n + 8 - 1) / 8 * 8 = rnd n from rfl] at RD
  obtain ⟨i4, i5, i6⟩ := okT_in h2
  obtain ⟨q3, q4, _⟩ := rnd_in h2.2.1
  have T2 := Lib.hid (fun W (hW : Below w.heap.size w W) => take_yes B (A + rnd n) L m W aA aS aR (hV.below hW) h2)
  have MF := Lib.hid (fun W => room_t B (A + rnd n + rnd m) L W (.inr i6))
  have MD := Lib.hid (fun W => room_t B (A + rnd n) L W (.inr i3))
  have MC := Lib.hid (fun W => room_t B A L W (.inr i1))
  have RT := Lib.hid (fun W => right_t B (A + rnd n) L W (.inr i3))
  obtain ⟨j1, j2, j3, j4, j5, j6, j7⟩ := i1
  clear h h2 i3 hn i4 i6
  generalize rnd n = r at *
  generalize rnd m = s at *
  have e1 : IntKind.i64.wrap (A + r) = A + r := IntWalk.i64_in _ (by omega)
  have e2 : IntKind.i64.wrap (L - A - r) = L - A - r := IntWalk.i64_in _ (by omega)
  have e3 : (L - (A + r) == L - A - r) = true := by simp; omega
  have e4 : decide (A + r ≤ L) = true := by simpa using i2
  have e8 : ((A + r) != (A + r)) = false := by simp
  have e5 : decide (L < A + r + s) = false := by simp; omega
  have e6 : decide (L - (A + r) ≤ L - (A + r + s)) = false := by simp; omega
  clear hV j1 j2 j3 j4 j5
  have HB := Lib.hid (Below.refl w.heap.size w)
  go_enter Tryd.func4, Tryd.ntmps4
  have HB := Lib.hid (bel_al HB.out (.cells #[.int .i64 B, .int .i64 A, .int .i64 L] 23))
  have KC := Lib.hid (Blk.new w #[.int .i64 B, .int .i64 A, .int .i64 L] 23)
  go_wp2_with fail
  generalize w.alloc (.cells #[.int .i64 B, .int .i64 A, .int .i64 L] 23) = v1 at HB KC ⊢
  ((with_reducible refine (HS.out v1 HB.out).mono ?_))
  rintro e u2 ⟨rfl, hb⟩
  have HB := Lib.hid (bstep HB.out hb)
  have KC := Lib.hid (KC.out.below' hb)
  clear hb
  have ltKC := KC.out.lt
  have cKC0 : u2.cell? ⟨w.heap.size, 0, none⟩ = some (.int .i64 B) := KC.out.cell rfl
  have cKC1 : u2.cell? ⟨w.heap.size, 1, none⟩ = some (.int .i64 A) := KC.out.cell rfl
  have cKC2 : u2.cell? ⟨w.heap.size, 2, none⟩ = some (.int .i64 L) := KC.out.cell rfl
  go_wp2_with fail
  clear ltKC cKC0 cKC1 cKC2
  ((with_reducible refine (T1.out u2 HB.out).mono ?_))
  rintro e u3 ⟨rfl, hb⟩
  have HB := Lib.hid (bstep HB.out hb)
  have KC := Lib.hid (KC.out.below' hb)
  clear hb
  have HB := Lib.hid (bel_al HB.out (.cells #[.int .i64 B, .int .i64 (A + r), .int .i64 L] 23))
  have KC := Lib.hid (KC.out.alloc (.cells #[.int .i64 B, .int .i64 (A + r), .int .i64 L] 23))
  have KD := Lib.hid (Blk.new u3 #[.int .i64 B, .int .i64 (A + r), .int .i64 L] 23)
  go_wp2_with fail
  generalize u3.alloc (.cells #[.int .i64 B, .int .i64 (A + r), .int .i64 L] 23) = v4 at HB KC KD ⊢
  ((with_reducible refine (RD.out v4 HB.out).mono ?_))
  rintro e u5 ⟨rfl, hb⟩
  have HB := Lib.hid (bstep HB.out hb)
  have KC := Lib.hid (KC.out.below' hb)
  have KD := Lib.hid (KD.out.below' hb)
  clear hb
  have ltKD := KD.out.lt
  have cKD0 : u5.cell? ⟨u3.heap.size, 0, none⟩ = some (.int .i64 B) := KD.out.cell rfl
  have cKD1 : u5.cell? ⟨u3.heap.size, 1, none⟩ = some (.int .i64 (A + r)) := KD.out.cell rfl
  have cKD2 : u5.cell? ⟨u3.heap.size, 2, none⟩ = some (.int .i64 L) := KD.out.cell rfl
  go_wp2_with fail
  clear ltKD cKD0 cKD1 cKD2
  ((with_reducible refine (T2.out u5 HB.out).mono ?_))
  rintro e u6 ⟨rfl, hb⟩
  have HB := Lib.hid (bstep HB.out hb)
  have KC := Lib.hid (KC.out.below' hb)
  have KD := Lib.hid (KD.out.below' hb)
  clear hb
  go_wp2
  have HB := Lib.hid (bel_al HB.out (.cells #[.int .i64 B, .int .i64 (A + r + s), .int .i64 L] 23))
  have KC := Lib.hid (KC.out.alloc (.cells #[.int .i64 B, .int .i64 (A + r + s), .int .i64 L] 23))
  have KD := Lib.hid (KD.out.alloc (.cells #[.int .i64 B, .int .i64 (A + r + s), .int .i64 L] 23))
  have KF := Lib.hid (Blk.new u6 #[.int .i64 B, .int .i64 (A + r + s), .int .i64 L] 23)
  generalize u6.alloc (.cells #[.int .i64 B, .int .i64 (A + r + s), .int .i64 L] 23) = v7 at HB KC KD KF ⊢
  have rKC0 : v7.cell? ⟨w.heap.size, 0, none⟩ = some (.int .i64 B) := KC.out.cell rfl
  have rKC1 : v7.cell? ⟨w.heap.size, 1, none⟩ = some (.int .i64 A) := KC.out.cell rfl
  have rKC2 : v7.cell? ⟨w.heap.size, 2, none⟩ = some (.int .i64 L) := KC.out.cell rfl
  have rKD0 : v7.cell? ⟨u3.heap.size, 0, none⟩ = some (.int .i64 B) := KD.out.cell rfl
  have rKD1 : v7.cell? ⟨u3.heap.size, 1, none⟩ = some (.int .i64 (A + r)) := KD.out.cell rfl
  have rKD2 : v7.cell? ⟨u3.heap.size, 2, none⟩ = some (.int .i64 L) := KD.out.cell rfl
  have rKF0 : v7.cell? ⟨u6.heap.size, 0, none⟩ = some (.int .i64 B) := KF.out.cell rfl
  have rKF1 : v7.cell? ⟨u6.heap.size, 1, none⟩ = some (.int .i64 (A + r + s)) := KF.out.cell rfl
  have rKF2 : v7.cell? ⟨u6.heap.size, 2, none⟩ = some (.int .i64 L) := KF.out.cell rfl
  go_region_held3 (fun w' => w'.cell? ⟨w.heap.size, 0, none⟩ = some (.int .i64 B) ∧ w'.cell? ⟨w.heap.size, 1, none⟩ = some (.int .i64 A) ∧ w'.cell? ⟨w.heap.size, 2, none⟩ = some (.int .i64 L) ∧ w'.cell? ⟨u3.heap.size, 0, none⟩ = some (.int .i64 B) ∧ w'.cell? ⟨u3.heap.size, 1, none⟩ = some (.int .i64 (A + r)) ∧ w'.cell? ⟨u3.heap.size, 2, none⟩ = some (.int .i64 L) ∧ w'.cell? ⟨u6.heap.size, 0, none⟩ = some (.int .i64 B) ∧ w'.cell? ⟨u6.heap.size, 1, none⟩ = some (.int .i64 (A + r + s)) ∧ w'.cell? ⟨u6.heap.size, 2, none⟩ = some (.int .i64 L))
    (with_reducible first | exact ⟨rKC0, rKC1, rKC2, rKD0, rKD1, rKD2, rKF0, rKF1, rKF2⟩ | exact ⟨cell_dr rKC0, cell_dr rKC1, cell_dr rKC2, cell_dr rKD0, cell_dr rKD1, cell_dr rKD2, cell_dr rKF0, cell_dr rKF1, cell_dr rKF2⟩ | exact ⟨rKC0_0, rKC1_0, rKC2_0, rKD0_0, rKD1_0, rKD2_0, rKF0_0, rKF1_0, rKF2_0⟩ | exact ⟨rKC0_1, rKC1_1, rKC2_1, rKD0_1, rKD1_1, rKD2_1, rKF0_1, rKF1_1, rKF2_1⟩)
    (first
        | (go_at_call 14; ((with_reducible refine (MF.out v7.drew).mono ?_)); rintro e x7_0 ⟨rfl, hb⟩; have rKC0_0 := cell_below (cell_dr rKC0) hb; have rKC1_0 := cell_below (cell_dr rKC1) hb; have rKC2_0 := cell_below (cell_dr rKC2) hb; have rKD0_0 := cell_below (cell_dr rKD0) hb; have rKD1_0 := cell_below (cell_dr rKD1) hb; have rKD2_0 := cell_below (cell_dr rKD2) hb; have rKF0_0 := cell_below (cell_dr rKF0) hb; have rKF1_0 := cell_below (cell_dr rKF1) hb; have rKF2_0 := cell_below (cell_dr rKF2) hb; have KC_7_0 := Lib.hid (KC.out.drew.below' hb); have KD_7_0 := Lib.hid (KD.out.drew.below' hb); have KF_7_0 := Lib.hid (KF.out.drew.below' hb); have HX7_0 := Lib.hid (bstep (bel_dr HB.out) hb); clear hb)
        | (go_at_call 14; ((with_reducible refine (MD.out x7_0).mono ?_)); rintro e x7_1 ⟨rfl, hb⟩; have rKC0_1 := cell_below rKC0_0 hb; have rKC1_1 := cell_below rKC1_0 hb; have rKC2_1 := cell_below rKC2_0 hb; have rKD0_1 := cell_below rKD0_0 hb; have rKD1_1 := cell_below rKD1_0 hb; have rKD2_1 := cell_below rKD2_0 hb; have rKF0_1 := cell_below rKF0_0 hb; have rKF1_1 := cell_below rKF1_0 hb; have rKF2_1 := cell_below rKF2_0 hb; have KC_7_1 := Lib.hid (KC_7_0.out.below' hb); have KD_7_1 := Lib.hid (KD_7_0.out.below' hb); have KF_7_1 := Lib.hid (KF_7_0.out.below' hb); have HX7_1 := Lib.hid (bstep HX7_0.out hb); clear hb))
  have KC := KC_7_1
  have KD := KD_7_1
  have KF := KF_7_1
  have HB := HX7_1
  clear rKC0 rKC1 rKC2 rKD0 rKD1 rKD2 rKF0 rKF1 rKF2 rKC0_0 rKC0_1 rKC1_0 rKC1_1 rKC2_0 rKC2_1 rKD0_0 rKD0_1 rKD1_0 rKD1_1 rKD2_0 rKD2_1 rKF0_0 rKF0_1 rKF1_0 rKF1_1 rKF2_0 rKF2_1
  have yKC0 : x7_1.cell? ⟨w.heap.size, 0, none⟩ = some (.int .i64 B) := KC.out.cell rfl
  have yKC1 : x7_1.cell? ⟨w.heap.size, 1, none⟩ = some (.int .i64 A) := KC.out.cell rfl
  have yKC2 : x7_1.cell? ⟨w.heap.size, 2, none⟩ = some (.int .i64 L) := KC.out.cell rfl
  have yKD0 : x7_1.cell? ⟨u3.heap.size, 0, none⟩ = some (.int .i64 B) := KD.out.cell rfl
  have yKD1 : x7_1.cell? ⟨u3.heap.size, 1, none⟩ = some (.int .i64 (A + r)) := KD.out.cell rfl
  have yKD2 : x7_1.cell? ⟨u3.heap.size, 2, none⟩ = some (.int .i64 L) := KD.out.cell rfl
  go_wp2
  clear yKC0 yKD0 yKC1 yKD1 yKC2 yKD2
  have rKC0 : x7_1.cell? ⟨w.heap.size, 0, none⟩ = some (.int .i64 B) := KC.out.cell rfl
  have rKC1 : x7_1.cell? ⟨w.heap.size, 1, none⟩ = some (.int .i64 A) := KC.out.cell rfl
  have rKC2 : x7_1.cell? ⟨w.heap.size, 2, none⟩ = some (.int .i64 L) := KC.out.cell rfl
  have rKD0 : x7_1.cell? ⟨u3.heap.size, 0, none⟩ = some (.int .i64 B) := KD.out.cell rfl
  have rKD1 : x7_1.cell? ⟨u3.heap.size, 1, none⟩ = some (.int .i64 (A + r)) := KD.out.cell rfl
  have rKD2 : x7_1.cell? ⟨u3.heap.size, 2, none⟩ = some (.int .i64 L) := KD.out.cell rfl
  go_region_held3 (fun w' => w'.cell? ⟨w.heap.size, 0, none⟩ = some (.int .i64 B) ∧ w'.cell? ⟨w.heap.size, 1, none⟩ = some (.int .i64 A) ∧ w'.cell? ⟨w.heap.size, 2, none⟩ = some (.int .i64 L) ∧ w'.cell? ⟨u3.heap.size, 0, none⟩ = some (.int .i64 B) ∧ w'.cell? ⟨u3.heap.size, 1, none⟩ = some (.int .i64 (A + r)) ∧ w'.cell? ⟨u3.heap.size, 2, none⟩ = some (.int .i64 L))
    (with_reducible first | exact ⟨rKC0, rKC1, rKC2, rKD0, rKD1, rKD2⟩ | exact ⟨cell_dr rKC0, cell_dr rKC1, cell_dr rKC2, cell_dr rKD0, cell_dr rKD1, cell_dr rKD2⟩ | exact ⟨rKC0_0, rKC1_0, rKC2_0, rKD0_0, rKD1_0, rKD2_0⟩ | exact ⟨rKC0_1, rKC1_1, rKC2_1, rKD0_1, rKD1_1, rKD2_1⟩ | exact ⟨rKC0_2, rKC1_2, rKC2_2, rKD0_2, rKD1_2, rKD2_2⟩)
    (first
        | (go_at_call 12; ((with_reducible refine (RT.out x7_1.drew).mono ?_)); rintro e x8_0 ⟨rfl, hb⟩; have rKC0_0 := cell_below (cell_dr rKC0) hb; have rKC1_0 := cell_below (cell_dr rKC1) hb; have rKC2_0 := cell_below (cell_dr rKC2) hb; have rKD0_0 := cell_below (cell_dr rKD0) hb; have rKD1_0 := cell_below (cell_dr rKD1) hb; have rKD2_0 := cell_below (cell_dr rKD2) hb; have KC_8_0 := Lib.hid (KC.out.drew.below' hb); have KD_8_0 := Lib.hid (KD.out.drew.below' hb); have KF_8_0 := Lib.hid (KF.out.drew.below' hb); have HX8_0 := Lib.hid (bstep (bel_dr HB.out) hb); clear hb)
        | (go_at_call 14; ((with_reducible refine (MD.out x8_0).mono ?_)); rintro e x8_1 ⟨rfl, hb⟩; have rKC0_1 := cell_below rKC0_0 hb; have rKC1_1 := cell_below rKC1_0 hb; have rKC2_1 := cell_below rKC2_0 hb; have rKD0_1 := cell_below rKD0_0 hb; have rKD1_1 := cell_below rKD1_0 hb; have rKD2_1 := cell_below rKD2_0 hb; have KC_8_1 := Lib.hid (KC_8_0.out.below' hb); have KD_8_1 := Lib.hid (KD_8_0.out.below' hb); have KF_8_1 := Lib.hid (KF_8_0.out.below' hb); have HX8_1 := Lib.hid (bstep HX8_0.out hb); clear hb)
        | (go_at_call 14; ((with_reducible refine (MC.out x8_1).mono ?_)); rintro e x8_2 ⟨rfl, hb⟩; have rKC0_2 := cell_below rKC0_1 hb; have rKC1_2 := cell_below rKC1_1 hb; have rKC2_2 := cell_below rKC2_1 hb; have rKD0_2 := cell_below rKD0_1 hb; have rKD1_2 := cell_below rKD1_1 hb; have rKD2_2 := cell_below rKD2_1 hb; have KC_8_2 := Lib.hid (KC_8_1.out.below' hb); have KD_8_2 := Lib.hid (KD_8_1.out.below' hb); have KF_8_2 := Lib.hid (KF_8_1.out.below' hb); have HX8_2 := Lib.hid (bstep HX8_1.out hb); clear hb))
  have KC := KC_8_2
  have KD := KD_8_2
  have KF := KF_8_2
  have HB := HX8_2
  clear rKC0 rKC1 rKC2 rKD0 rKD1 rKD2 rKC0_0 rKC0_1 rKC0_2 rKC1_0 rKC1_1 rKC1_2 rKC2_0 rKC2_1 rKC2_2 rKD0_0 rKD0_1 rKD0_2 rKD1_0 rKD1_1 rKD1_2 rKD2_0 rKD2_1 rKD2_2
  go_wp2
  go_ret
  exact ⟨rfl, HB.out⟩
set_option maxRecDepth 100000 in
set_option maxHeartbeats 2000000 in
theorem lawBumpApart_yn (B A L n m : Int) (w : World) (aA aS aR : Addr) (hV : AV w aA aS aR) (h : okT B A L n) (h2 : ¬ okT B (A + rnd n) L m) : Calls Tryd.prog 4 #[.agg #[.int .i64 B, .int .i64 A, .int .i64 L], .int .i64 n, .int .i64 m] w fun e w' => e = .returned (.bool true) ∧ Below w.heap.size w w' := by
  have HS := Lib.hid (fun W (hW : Below w.heap.size w W) => shown11 W aA aS aR (hV.below hW))
  obtain ⟨i1, i2, i3⟩ := okT_in h
  have hn := h.2.1
  obtain ⟨q1, q2, _⟩ := rnd_in hn
  have T1 := Lib.hid (fun W (hW : Below w.heap.size w W) => take_yes B A L n W aA aS aR (hV.below hW) h)
  have RD := Lib.hid (fun W (hW : Below w.heap.size w W) => round_yes n W aA aS aR (hV.below hW) hn.1 hn.2)
  rw [show (n + 8 - 1) / 8 * 8 = rnd n from rfl] at RD
  have T2 := Lib.hid (fun W (hW : Below w.heap.size w W) => take_no B (A + rnd n) L m W aA aS aR (hV.below hW) h2)
  have MD := Lib.hid (fun W => room_t B (A + rnd n) L W (.inr i3))
  have MC := Lib.hid (fun W => room_t B A L W (.inr i1))
  have RT := Lib.hid (fun W => right_t B (A + rnd n) L W (.inr i3))
  obtain ⟨j1, j2, j3, j4, j5, j6, j7⟩ := i1
  clear h h2 i3 hn
  generalize rnd n = r at *
  have e1 : IntKind.i64.wrap (A + r) = A + r := IntWalk.i64_in _ (by omega)
  have e2 : IntKind.i64.wrap (L - A - r) = L - A - r := IntWalk.i64_in _ (by omega)
  have e3 : (L - (A + r) == L - A - r) = true := by simp; omega
  have e4 : decide (A + r ≤ L) = true := by simpa using i2
  have e8 : ((A + r) != (A + r)) = false := by simp
  clear hV j1 j2 j3 j4 j5
  have HB := Lib.hid (Below.refl w.heap.size w)
  go_enter Tryd.func4, Tryd.ntmps4
  have HB := Lib.hid (bel_al HB.out (.cells #[.int .i64 B, .int .i64 A, .int .i64 L] 23))
  have KC := Lib.hid (Blk.new w #[.int .i64 B, .int .i64 A, .int .i64 L] 23)
  go_wp2_with fail
  generalize w.alloc (.cells #[.int .i64 B, .int .i64 A, .int .i64 L] 23) = v1 at HB KC ⊢
  ((with_reducible refine (HS.out v1 HB.out).mono ?_))
  rintro e u2 ⟨rfl, hb⟩
  have HB := Lib.hid (bstep HB.out hb)
  have KC := Lib.hid (KC.out.below' hb)
  clear hb
  have ltKC := KC.out.lt
  have cKC0 : u2.cell? ⟨w.heap.size, 0, none⟩ = some (.int .i64 B) := KC.out.cell rfl
  have cKC1 : u2.cell? ⟨w.heap.size, 1, none⟩ = some (.int .i64 A) := KC.out.cell rfl
  have cKC2 : u2.cell? ⟨w.heap.size, 2, none⟩ = some (.int .i64 L) := KC.out.cell rfl
  go_wp2_with fail
  clear ltKC cKC0 cKC1 cKC2
  ((with_reducible refine (T1.out u2 HB.out).mono ?_))
  rintro e u3 ⟨rfl, hb⟩
  have HB := Lib.hid (bstep HB.out hb)
  have KC := Lib.hid (KC.out.below' hb)
  clear hb
  have HB := Lib.hid (bel_al HB.out (.cells #[.int .i64 B, .int .i64 (A + r), .int .i64 L] 23))
  have KC := Lib.hid (KC.out.alloc (.cells #[.int .i64 B, .int .i64 (A + r), .int .i64 L] 23))
  have KD := Lib.hid (Blk.new u3 #[.int .i64 B, .int .i64 (A + r), .int .i64 L] 23)
  go_wp2_with fail
  generalize u3.alloc (.cells #[.int .i64 B, .int .i64 (A + r), .int .i64 L] 23) = v4 at HB KC KD ⊢
  ((with_reducible refine (RD.out v4 HB.out).mono ?_))
  rintro e u5 ⟨rfl, hb⟩
  have HB := Lib.hid (bstep HB.out hb)
  have KC := Lib.hid (KC.out.below' hb)
  have KD := Lib.hid (KD.out.below' hb)
  clear hb
  have ltKD := KD.out.lt
  have cKD0 : u5.cell? ⟨u3.heap.size, 0, none⟩ = some (.int .i64 B) := KD.out.cell rfl
  have cKD1 : u5.cell? ⟨u3.heap.size, 1, none⟩ = some (.int .i64 (A + r)) := KD.out.cell rfl
  have cKD2 : u5.cell? ⟨u3.heap.size, 2, none⟩ = some (.int .i64 L) := KD.out.cell rfl
  go_wp2_with fail
  clear ltKD cKD0 cKD1 cKD2
  ((with_reducible refine (T2.out u5 HB.out).mono ?_))
  rintro e u6 ⟨rfl, hb⟩
  have HB := Lib.hid (bstep HB.out hb)
  have KC := Lib.hid (KC.out.below' hb)
  have KD := Lib.hid (KD.out.below' hb)
  clear hb
  go_wp2
  have HB := Lib.hid (bel_al HB.out (.cells #[.int .i64 0, .int .i64 0, .int .i64 0] 23))
  have KC := Lib.hid (KC.out.alloc (.cells #[.int .i64 0, .int .i64 0, .int .i64 0] 23))
  have KD := Lib.hid (KD.out.alloc (.cells #[.int .i64 0, .int .i64 0, .int .i64 0] 23))
  have KF := Lib.hid (Blk.new u6 #[.int .i64 0, .int .i64 0, .int .i64 0] 23)
  generalize u6.alloc (.cells #[.int .i64 0, .int .i64 0, .int .i64 0] 23) = v7 at HB KC KD KF ⊢
  go_quiet (fail)
  have KC : Hid (Blk (v7.drewN nq) w.heap.size #[.int .i64 B, .int .i64 A, .int .i64 L] 23) := Lib.hid KC.out
  have KD : Hid (Blk (v7.drewN nq) u3.heap.size #[.int .i64 B, .int .i64 (A + r), .int .i64 L] 23) := Lib.hid KD.out
  have KF : Hid (Blk (v7.drewN nq) u6.heap.size #[.int .i64 0, .int .i64 0, .int .i64 0] 23) := Lib.hid KF.out
  have HB := Lib.hid (Ad.below_drewN HB.out nq)
  generalize v7.drewN nq = v8 at HB KC KD KF ⊢
  have yKC0 : v8.cell? ⟨w.heap.size, 0, none⟩ = some (.int .i64 B) := KC.out.cell rfl
  have yKC1 : v8.cell? ⟨w.heap.size, 1, none⟩ = some (.int .i64 A) := KC.out.cell rfl
  have yKC2 : v8.cell? ⟨w.heap.size, 2, none⟩ = some (.int .i64 L) := KC.out.cell rfl
  have yKD0 : v8.cell? ⟨u3.heap.size, 0, none⟩ = some (.int .i64 B) := KD.out.cell rfl
  have yKD1 : v8.cell? ⟨u3.heap.size, 1, none⟩ = some (.int .i64 (A + r)) := KD.out.cell rfl
  have yKD2 : v8.cell? ⟨u3.heap.size, 2, none⟩ = some (.int .i64 L) := KD.out.cell rfl
  go_wp2
  clear yKC0 yKD0 yKC1 yKD1 yKC2 yKD2
  have rKC0 : v8.cell? ⟨w.heap.size, 0, none⟩ = some (.int .i64 B) := KC.out.cell rfl
  have rKC1 : v8.cell? ⟨w.heap.size, 1, none⟩ = some (.int .i64 A) := KC.out.cell rfl
  have rKC2 : v8.cell? ⟨w.heap.size, 2, none⟩ = some (.int .i64 L) := KC.out.cell rfl
  have rKD0 : v8.cell? ⟨u3.heap.size, 0, none⟩ = some (.int .i64 B) := KD.out.cell rfl
  have rKD1 : v8.cell? ⟨u3.heap.size, 1, none⟩ = some (.int .i64 (A + r)) := KD.out.cell rfl
  have rKD2 : v8.cell? ⟨u3.heap.size, 2, none⟩ = some (.int .i64 L) := KD.out.cell rfl
  go_region_held3 (fun w' => w'.cell? ⟨w.heap.size, 0, none⟩ = some (.int .i64 B) ∧ w'.cell? ⟨w.heap.size, 1, none⟩ = some (.int .i64 A) ∧ w'.cell? ⟨w.heap.size, 2, none⟩ = some (.int .i64 L) ∧ w'.cell? ⟨u3.heap.size, 0, none⟩ = some (.int .i64 B) ∧ w'.cell? ⟨u3.heap.size, 1, none⟩ = some (.int .i64 (A + r)) ∧ w'.cell? ⟨u3.heap.size, 2, none⟩ = some (.int .i64 L))
    (with_reducible first | exact ⟨rKC0, rKC1, rKC2, rKD0, rKD1, rKD2⟩ | exact ⟨cell_dr rKC0, cell_dr rKC1, cell_dr rKC2, cell_dr rKD0, cell_dr rKD1, cell_dr rKD2⟩ | exact ⟨rKC0_0, rKC1_0, rKC2_0, rKD0_0, rKD1_0, rKD2_0⟩ | exact ⟨rKC0_1, rKC1_1, rKC2_1, rKD0_1, rKD1_1, rKD2_1⟩ | exact ⟨rKC0_2, rKC1_2, rKC2_2, rKD0_2, rKD1_2, rKD2_2⟩)
    (first
        | (go_at_call 12; ((with_reducible refine (RT.out v8.drew).mono ?_)); rintro e x8_0 ⟨rfl, hb⟩; have rKC0_0 := cell_below (cell_dr rKC0) hb; have rKC1_0 := cell_below (cell_dr rKC1) hb; have rKC2_0 := cell_below (cell_dr rKC2) hb; have rKD0_0 := cell_below (cell_dr rKD0) hb; have rKD1_0 := cell_below (cell_dr rKD1) hb; have rKD2_0 := cell_below (cell_dr rKD2) hb; have KC_8_0 := Lib.hid (KC.out.drew.below' hb); have KD_8_0 := Lib.hid (KD.out.drew.below' hb); have KF_8_0 := Lib.hid (KF.out.drew.below' hb); have HX8_0 := Lib.hid (bstep (bel_dr HB.out) hb); clear hb)
        | (go_at_call 14; ((with_reducible refine (MD.out x8_0).mono ?_)); rintro e x8_1 ⟨rfl, hb⟩; have rKC0_1 := cell_below rKC0_0 hb; have rKC1_1 := cell_below rKC1_0 hb; have rKC2_1 := cell_below rKC2_0 hb; have rKD0_1 := cell_below rKD0_0 hb; have rKD1_1 := cell_below rKD1_0 hb; have rKD2_1 := cell_below rKD2_0 hb; have KC_8_1 := Lib.hid (KC_8_0.out.below' hb); have KD_8_1 := Lib.hid (KD_8_0.out.below' hb); have KF_8_1 := Lib.hid (KF_8_0.out.below' hb); have HX8_1 := Lib.hid (bstep HX8_0.out hb); clear hb)
        | (go_at_call 14; ((with_reducible refine (MC.out x8_1).mono ?_)); rintro e x8_2 ⟨rfl, hb⟩; have rKC0_2 := cell_below rKC0_1 hb; have rKC1_2 := cell_below rKC1_1 hb; have rKC2_2 := cell_below rKC2_1 hb; have rKD0_2 := cell_below rKD0_1 hb; have rKD1_2 := cell_below rKD1_1 hb; have rKD2_2 := cell_below rKD2_1 hb; have KC_8_2 := Lib.hid (KC_8_1.out.below' hb); have KD_8_2 := Lib.hid (KD_8_1.out.below' hb); have KF_8_2 := Lib.hid (KF_8_1.out.below' hb); have HX8_2 := Lib.hid (bstep HX8_1.out hb); clear hb))
  have KC := KC_8_2
  have KD := KD_8_2
  have KF := KF_8_2
  have HB := HX8_2
  clear rKC0 rKC1 rKC2 rKD0 rKD1 rKD2 rKC0_0 rKC0_1 rKC0_2 rKC1_0 rKC1_1 rKC1_2 rKC2_0 rKC2_1 rKC2_2 rKD0_0 rKD0_1 rKD0_2 rKD1_0 rKD1_1 rKD1_2 rKD2_0 rKD2_1 rKD2_2
  go_wp2
  go_ret
  exact ⟨rfl, HB.out⟩
theorem lawBumpApart (B A L n m : Int) (w : World) (aA aS aR : Addr) (hV : AV w aA aS aR) (_ : InI B) (_ : InI A) (_ : InI L) (_ : InI n) (_ : InI m) : Calls Tryd.prog 4 #[.agg #[.int .i64 B, .int .i64 A, .int .i64 L], .int .i64 n, .int .i64 m] w fun e w' => e = .returned (.bool true) ∧ Below w.heap.size w w' := by
  by_cases h : okT B A L n
  · by_cases h2 : okT B (A + rnd n) L m
    · exact lawBumpApart_yy B A L n m w aA aS aR hV h h2
    · exact lawBumpApart_yn B A L n m w aA aS aR hV h h2
  · exact lawBumpApart_no B A L n m w aA aS aR hV h
end Go.Proofs.YtanccoahpcfbnaaDoor
