/-
  selionlaw11.BumpTakes, for every input.
-/
import Derived.Test.YtanccoahpcfbnaaDoorBuE
import Derived.Test.YtanccoahpcfbnaaDoorRgA
import Derived.Test.YtanccoahpcfbnaaDoorLaidB
namespace Go.Proofs.YtanccoahpcfbnaaDoor
open Go.RowKit Go.Lib Go.Shelf Ad
attribute [local go_sem] Oper.semAt_some
set_option linter.unusedSimpArgs false
set_option linter.unusedVariables false

theorem none_b (w : World) : Calls Tryd.prog 16 #[] w fun e w' => e = .returned (.agg #[.int .i64 (-1), .int .i64 0, .int .i64 0]) ∧ Below w.heap.size w w' :=
  (none_any w).mono fun e w' ⟨he, hw⟩ => ⟨he, by subst hw; exact bel_al (Below.refl _ _) _⟩
theorem rnone_b (w : World) : Calls Tryd.prog 17 #[] w fun e w' => e = .returned (.agg #[.int .i64 (-1), .int .i64 0, .int .i64 0]) ∧ Below w.heap.size w w' :=
  (rnone_any w).mono fun e w' ⟨he, hw⟩ => ⟨he, by subst hw; exact bel_al (Below.refl _ _) _⟩
/-- What Take and its reference answer alike. -/
def TkAt (f : FuncId) (w : World) (B A L n B' A' L' a : Int) (r : Bool) : Prop := ∀ W, Below w.heap.size w W → Calls Tryd.prog f #[.agg #[.int .i64 B, .int .i64 A, .int .i64 L], .int .i64 n] W fun e w' => e = .returned (.tuple #[.agg #[.int .i64 B', .int .i64 A', .int .i64 L'], .int .i64 a, .bool r]) ∧ Below W.heap.size W w'
theorem TkAt.call {f : FuncId} {w : World} {B A L n B' A' L' a : Int} {r : Bool} (h : TkAt f w B A L n B' A' L' a r) (W : World) (hW : Below w.heap.size w W) : Calls Tryd.prog f #[.agg #[.int .i64 B, .int .i64 A, .int .i64 L], .int .i64 n] W fun e w' => e = .returned (.tuple #[.agg #[.int .i64 B', .int .i64 A', .int .i64 L'], .int .i64 a, .bool r]) ∧ Below W.heap.size W w' := h W hW
theorem take_at (B A L n : Int) (w : World) (aA aS aR : Addr) (hV : AV w aA aS aR) : ∃ B' A' L' a r, TkAt 10 w B A L n B' A' L' a r ∧ TkAt 11 w B A L n B' A' L' a r := by
  by_cases h : okT B A L n
  · exact ⟨B, A + rnd n, L, A, true, fun W hW => take_yes B A L n W aA aS aR (hV.below hW) h, fun W hW => rtake_yes B A L n W h⟩
  · exact ⟨0, 0, 0, 0, false, fun W hW => take_no B A L n W aA aS aR (hV.below hW) h, fun W hW => rtake_no B A L n W h⟩
set_option maxRecDepth 100000 in
set_option maxHeartbeats 2000000 in
theorem lawBumpTakes (B A L n : Int) (w : World) (aA aS aR : Addr) (hV : AV w aA aS aR) (_ : InI B) (_ : InI A) (_ : InI L) (_ : InI n) : Calls Tryd.prog 3 #[.agg #[.int .i64 B, .int .i64 A, .int .i64 L], .int .i64 n] w fun e w' => e = .returned (.bool true) ∧ Below w.heap.size w w' := by
  have HS := Lib.hid (fun W (hW : Below w.heap.size w W) => shown11 W aA aS aR (hV.below hW))
  obtain ⟨B', A', L', a, r, hT1, hT2⟩ := take_at B A L n w aA aS aR hV
  have T1 := Lib.hid hT1
  have T2 := Lib.hid hT2
  obtain ⟨rb, hrb⟩ : ∃ b, decide (rightC B A L) = b := ⟨_, rfl⟩
  obtain ⟨rm, hrm⟩ : ∃ x, roomC B A L = x := ⟨_, rfl⟩
  have R1 := Lib.hid (fun W => right_any B A L W)
  rw [hrb] at R1
  have R2 := Lib.hid (fun W => rright_any B A L W)
  rw [hrb] at R2
  have M1 := Lib.hid (fun W => room_any B A L W)
  rw [hrm] at M1
  have M2 := Lib.hid (fun W => rroom_any B A L W)
  rw [hrm] at M2
  have heq := cur_eq B' A' L' B' A' L'
  have heq2 := cur_eq (-1) 0 0 (-1) 0 0
  simp only [beq_self_eq_true, Bool.and_self] at heq heq2
  clear hV hT1 hT2 hrb hrm
  have HB := Lib.hid (Below.refl w.heap.size w)
  go_enter Tryd.func3, Tryd.ntmps3
  have HB := Lib.hid (bel_al HB.out (.cells #[.int .i64 B, .int .i64 A, .int .i64 L] 23))
  have KC := Lib.hid (Blk.new w #[.int .i64 B, .int .i64 A, .int .i64 L] 23)
  go_wp2_with fail
  generalize w.alloc (.cells #[.int .i64 B, .int .i64 A, .int .i64 L] 23) = v1 at HB KC ⊢
  ((with_reducible refine (HS.out v1 HB.out).mono ?_))
  rintro e u2 ⟨rfl, hb⟩
  have HB := Lib.hid (bstep HB.out hb)
  have KC := Lib.hid (KC.out.below' hb)
  clear hb
  have ltKC := KC.out.lt
  have cKC0 : u2.cell? ⟨w.heap.size, 0, none⟩ = some (.int .i64 B) := KC.out.cell rfl
  have cKC1 : u2.cell? ⟨w.heap.size, 1, none⟩ = some (.int .i64 A) := KC.out.cell rfl
  have cKC2 : u2.cell? ⟨w.heap.size, 2, none⟩ = some (.int .i64 L) := KC.out.cell rfl
  go_wp2_with fail
  clear ltKC cKC0 cKC1 cKC2
  ((with_reducible refine (T1.out.call u2 HB.out).mono ?_))
  rintro e u3 ⟨rfl, hb⟩
  have HB := Lib.hid (bstep HB.out hb)
  have KC := Lib.hid (KC.out.below' hb)
  clear hb
  have ltKC := KC.out.lt
  have cKC0 : u3.cell? ⟨w.heap.size, 0, none⟩ = some (.int .i64 B) := KC.out.cell rfl
  have cKC1 : u3.cell? ⟨w.heap.size, 1, none⟩ = some (.int .i64 A) := KC.out.cell rfl
  have cKC2 : u3.cell? ⟨w.heap.size, 2, none⟩ = some (.int .i64 L) := KC.out.cell rfl
  have HB := Lib.hid (bel_al HB.out (.cells #[.int .i64 B', .int .i64 A', .int .i64 L'] 23))
  have KC := Lib.hid (KC.out.alloc (.cells #[.int .i64 B', .int .i64 A', .int .i64 L'] 23))
  have KD := Lib.hid (Blk.new u3 #[.int .i64 B', .int .i64 A', .int .i64 L'] 23)
  go_wp2_with fail
  generalize u3.alloc (.cells #[.int .i64 B', .int .i64 A', .int .i64 L'] 23) = v4 at HB KC KD ⊢
  clear ltKC cKC0 cKC1 cKC2
  ((with_reducible refine (T2.out.call v4 HB.out).mono ?_))
  rintro e u5 ⟨rfl, hb⟩
  have HB := Lib.hid (bstep HB.out hb)
  have KC := Lib.hid (KC.out.below' hb)
  have KD := Lib.hid (KD.out.below' hb)
  clear hb
  go_wp2
  have HB := Lib.hid (bel_al HB.out (.cells #[.int .i64 B', .int .i64 A', .int .i64 L'] 23))
  have KC := Lib.hid (KC.out.alloc (.cells #[.int .i64 B', .int .i64 A', .int .i64 L'] 23))
  have KD := Lib.hid (KD.out.alloc (.cells #[.int .i64 B', .int .i64 A', .int .i64 L'] 23))
  have KE := Lib.hid (Blk.new u5 #[.int .i64 B', .int .i64 A', .int .i64 L'] 23)
  generalize u5.alloc (.cells #[.int .i64 B', .int .i64 A', .int .i64 L'] 23) = v6 at HB KC KD KE ⊢
  have rKC0 : v6.cell? ⟨w.heap.size, 0, none⟩ = some (.int .i64 B) := KC.out.cell rfl
  have rKC1 : v6.cell? ⟨w.heap.size, 1, none⟩ = some (.int .i64 A) := KC.out.cell rfl
  have rKC2 : v6.cell? ⟨w.heap.size, 2, none⟩ = some (.int .i64 L) := KC.out.cell rfl
  have rKD0 : v6.cell? ⟨u3.heap.size, 0, none⟩ = some (.int .i64 B') := KD.out.cell rfl
  have rKD1 : v6.cell? ⟨u3.heap.size, 1, none⟩ = some (.int .i64 A') := KD.out.cell rfl
  have rKD2 : v6.cell? ⟨u3.heap.size, 2, none⟩ = some (.int .i64 L') := KD.out.cell rfl
  have rKE0 : v6.cell? ⟨u5.heap.size, 0, none⟩ = some (.int .i64 B') := KE.out.cell rfl
  have rKE1 : v6.cell? ⟨u5.heap.size, 1, none⟩ = some (.int .i64 A') := KE.out.cell rfl
  have rKE2 : v6.cell? ⟨u5.heap.size, 2, none⟩ = some (.int .i64 L') := KE.out.cell rfl
  go_region_held3 (fun w' => w'.cell? ⟨w.heap.size, 0, none⟩ = some (.int .i64 B) ∧ w'.cell? ⟨w.heap.size, 1, none⟩ = some (.int .i64 A) ∧ w'.cell? ⟨w.heap.size, 2, none⟩ = some (.int .i64 L) ∧ w'.cell? ⟨u3.heap.size, 0, none⟩ = some (.int .i64 B') ∧ w'.cell? ⟨u3.heap.size, 1, none⟩ = some (.int .i64 A') ∧ w'.cell? ⟨u3.heap.size, 2, none⟩ = some (.int .i64 L') ∧ w'.cell? ⟨u5.heap.size, 0, none⟩ = some (.int .i64 B') ∧ w'.cell? ⟨u5.heap.size, 1, none⟩ = some (.int .i64 A') ∧ w'.cell? ⟨u5.heap.size, 2, none⟩ = some (.int .i64 L'))
    (with_reducible first | exact ⟨rKC0, rKC1, rKC2, rKD0, rKD1, rKD2, rKE0, rKE1, rKE2⟩ | exact ⟨cell_dr rKC0, cell_dr rKC1, cell_dr rKC2, cell_dr rKD0, cell_dr rKD1, cell_dr rKD2, cell_dr rKE0, cell_dr rKE1, cell_dr rKE2⟩ | exact ⟨rKC0_0, rKC1_0, rKC2_0, rKD0_0, rKD1_0, rKD2_0, rKE0_0, rKE1_0, rKE2_0⟩ | exact ⟨rKC0_1, rKC1_1, rKC2_1, rKD0_1, rKD1_1, rKD2_1, rKE0_1, rKE1_1, rKE2_1⟩ | exact ⟨rKC0_2, rKC1_2, rKC2_2, rKD0_2, rKD1_2, rKD2_2, rKE0_2, rKE1_2, rKE2_2⟩ | exact ⟨rKC0_3, rKC1_3, rKC2_3, rKD0_3, rKD1_3, rKD2_3, rKE0_3, rKE1_3, rKE2_3⟩ | exact ⟨rKC0_4, rKC1_4, rKC2_4, rKD0_4, rKD1_4, rKD2_4, rKE0_4, rKE1_4, rKE2_4⟩ | exact ⟨rKC0_5, rKC1_5, rKC2_5, rKD0_5, rKD1_5, rKD2_5, rKE0_5, rKE1_5, rKE2_5⟩)
    (first
        | (go_at_call 12; ((with_reducible refine (R1.out v6.drew).mono ?_)); rintro e x6_0 ⟨rfl, hb⟩; have rKC0_0 := cell_below (cell_dr rKC0) hb; have rKC1_0 := cell_below (cell_dr rKC1) hb; have rKC2_0 := cell_below (cell_dr rKC2) hb; have rKD0_0 := cell_below (cell_dr rKD0) hb; have rKD1_0 := cell_below (cell_dr rKD1) hb; have rKD2_0 := cell_below (cell_dr rKD2) hb; have rKE0_0 := cell_below (cell_dr rKE0) hb; have rKE1_0 := cell_below (cell_dr rKE1) hb; have rKE2_0 := cell_below (cell_dr rKE2) hb; have HX6_0 := Lib.hid (bstep (bel_dr HB.out) hb); clear hb)
        | (go_at_call 13; ((with_reducible refine (R2.out x6_0).mono ?_)); rintro e x6_1 ⟨rfl, hb⟩; have rKC0_1 := cell_below rKC0_0 hb; have rKC1_1 := cell_below rKC1_0 hb; have rKC2_1 := cell_below rKC2_0 hb; have rKD0_1 := cell_below rKD0_0 hb; have rKD1_1 := cell_below rKD1_0 hb; have rKD2_1 := cell_below rKD2_0 hb; have rKE0_1 := cell_below rKE0_0 hb; have rKE1_1 := cell_below rKE1_0 hb; have rKE2_1 := cell_below rKE2_0 hb; have HX6_1 := Lib.hid (bstep HX6_0.out hb); clear hb)
        | (go_at_call 14; ((with_reducible refine (M1.out x6_1).mono ?_)); rintro e x6_2 ⟨rfl, hb⟩; have rKC0_2 := cell_below rKC0_1 hb; have rKC1_2 := cell_below rKC1_1 hb; have rKC2_2 := cell_below rKC2_1 hb; have rKD0_2 := cell_below rKD0_1 hb; have rKD1_2 := cell_below rKD1_1 hb; have rKD2_2 := cell_below rKD2_1 hb; have rKE0_2 := cell_below rKE0_1 hb; have rKE1_2 := cell_below rKE1_1 hb; have rKE2_2 := cell_below rKE2_1 hb; have HX6_2 := Lib.hid (bstep HX6_1.out hb); clear hb)
        | (go_at_call 15; ((with_reducible refine (M2.out x6_2).mono ?_)); rintro e x6_3 ⟨rfl, hb⟩; have rKC0_3 := cell_below rKC0_2 hb; have rKC1_3 := cell_below rKC1_2 hb; have rKC2_3 := cell_below rKC2_2 hb; have rKD0_3 := cell_below rKD0_2 hb; have rKD1_3 := cell_below rKD1_2 hb; have rKD2_3 := cell_below rKD2_2 hb; have rKE0_3 := cell_below rKE0_2 hb; have rKE1_3 := cell_below rKE1_2 hb; have rKE2_3 := cell_below rKE2_2 hb; have HX6_3 := Lib.hid (bstep HX6_2.out hb); clear hb)
        | (go_at_call 16; ((with_reducible refine (none_b x6_3).mono ?_)); rintro e x6_4 ⟨rfl, hb⟩; have rKC0_4 := cell_below rKC0_3 hb; have rKC1_4 := cell_below rKC1_3 hb; have rKC2_4 := cell_below rKC2_3 hb; have rKD0_4 := cell_below rKD0_3 hb; have rKD1_4 := cell_below rKD1_3 hb; have rKD2_4 := cell_below rKD2_3 hb; have rKE0_4 := cell_below rKE0_3 hb; have rKE1_4 := cell_below rKE1_3 hb; have rKE2_4 := cell_below rKE2_3 hb; have HX6_4 := Lib.hid (bstep HX6_3.out hb); clear hb)
        | (go_at_call 17; ((with_reducible refine (rnone_b x6_4).mono ?_)); rintro e x6_5 ⟨rfl, hb⟩; have rKC0_5 := cell_below rKC0_4 hb; have rKC1_5 := cell_below rKC1_4 hb; have rKC2_5 := cell_below rKC2_4 hb; have rKD0_5 := cell_below rKD0_4 hb; have rKD1_5 := cell_below rKD1_4 hb; have rKD2_5 := cell_below rKD2_4 hb; have rKE0_5 := cell_below rKE0_4 hb; have rKE1_5 := cell_below rKE1_4 hb; have rKE2_5 := cell_below rKE2_4 hb; have HX6_5 := Lib.hid (bstep HX6_4.out hb); clear hb))
  go_wp2
  go_ret
  exact ⟨rfl, HX6_5.out⟩
end Go.Proofs.YtanccoahpcfbnaaDoor
