/-
  selionlaw06.HeadCodes, for every input.
-/
import Derived.Test.YtmikkbhillkpkaaDoorHrD
namespace Go.Proofs.YtmikkbhillkpkaaDoor
open Go.RowKit Go.Lib Go.Shelf
attribute [local go_sem] Oper.semAt_some
set_option linter.unusedSimpArgs false
set_option linter.unusedVariables false

set_option maxRecDepth 100000 in
set_option maxHeartbeats 2000000 in
theorem codes_any (a0 a1 a2 a3 b0 b1 b2 b3 E D n m : Int) (s S X : ByteArray) (r : Bool) (hE : ∀ (W : World) (V : HR), HV W V → Calls Tryd.prog 10 #[.agg #[.int .i64 a0, .int .i64 a1, .int .i64 a2, .int .i64 a3]] W fun e w' => e = .returned (.tuple #[.string S, .int .i64 E]) ∧ Below W.heap.size W w') (hF : ∀ (W : World), Calls Tryd.prog 11 #[.agg #[.int .i64 a0, .int .i64 a1, .int .i64 a2, .int .i64 a3]] W fun e w' => e = .returned (.tuple #[.string S, .int .i64 E]) ∧ Below W.heap.size W w') (hC : ∀ (W : World), Calls Tryd.prog 13 #[.string s] W fun e w' => e = .returned (.string X) ∧ W = w') (hD : ∀ (W : World) (V : HR), HV W V → Calls Tryd.prog 12 #[.string X] W fun e w' => e = .returned (.tuple #[.agg #[.int .i64 b0, .int .i64 b1, .int .i64 b2, .int .i64 b3], .int .i64 D]) ∧ Below W.heap.size W w') (hG : ∀ (W : World), Calls Tryd.prog 14 #[.string X] W fun e w' => e = .returned (.tuple #[.agg #[.int .i64 b0, .int .i64 b1, .int .i64 b2, .int .i64 b3], .int .i64 D]) ∧ Below W.heap.size W w') (hR : ∀ (W : World) (V : HR), HV W V → Calls Tryd.prog 15 #[.agg #[.int .i64 a0, .int .i64 a1, .int .i64 a2, .int .i64 a3]] W fun e w' => e = .returned (.bool r) ∧ Below W.heap.size W w') (hQ : ∀ (W : World), Calls Tryd.prog 16 #[.agg #[.int .i64 a0, .int .i64 a1, .int .i64 a2, .int .i64 a3]] W fun e w' => e = .returned (.bool r) ∧ Below W.heap.size W w') (hT : ∀ (W : World), Calls Tryd.prog 17 #[.int .i64 n] W fun e w' => e = .returned (.int .i64 m) ∧ W = w') (hU : ∀ (W : World), Calls Tryd.prog 18 #[.int .i64 n] W fun e w' => e = .returned (.int .i64 m) ∧ W = w') (w : World) (V : HR) (hV : HV w V) : Calls Tryd.prog 3 #[.agg #[.int .i64 a0, .int .i64 a1, .int .i64 a2, .int .i64 a3], .string s, .int .i64 n] w fun e w' => e = .returned (.bool true) ∧ Below w.heap.size w w' := by
  have HVV := Lib.hid hV
  have HE := Lib.hid hE
  have HF := Lib.hid hF
  have HC := Lib.hid hC
  have HD := Lib.hid hD
  have HG := Lib.hid hG
  have HR := Lib.hid hR
  have HQ := Lib.hid hQ
  have HT := Lib.hid hT
  have HU := Lib.hid hU
  have HB := Lib.hid (Below.refl w.heap.size w)
  clear hV hE hF hC hD hG hR hQ hT hU
  go_enter Tryd.func3, Tryd.ntmps3
  have HB := Lib.hid (bel_al HB.out (.cells #[.int .i64 a0, .int .i64 a1, .int .i64 a2, .int .i64 a3] 23))
  have KA := Lib.hid (Blk.new w #[.int .i64 a0, .int .i64 a1, .int .i64 a2, .int .i64 a3] 23)
  go_wp2_with fail
  generalize w.alloc (.cells #[.int .i64 a0, .int .i64 a1, .int .i64 a2, .int .i64 a3] 23) = v1 at HB KA ⊢
  ((with_reducible refine (shown06 v1 V (HVV.out.below HB.out)).mono ?_))
  rintro e u2 ⟨rfl, hb⟩
  have HB := Lib.hid (bstep HB.out hb)
  have KA := Lib.hid (KA.out.below' hb)
  clear hb
  have ltKA := KA.out.lt
  have cKA0 : u2.cell? ⟨w.heap.size, 0, none⟩ = some (.int .i64 a0) := KA.out.cell rfl
  have cKA1 : u2.cell? ⟨w.heap.size, 1, none⟩ = some (.int .i64 a1) := KA.out.cell rfl
  have cKA2 : u2.cell? ⟨w.heap.size, 2, none⟩ = some (.int .i64 a2) := KA.out.cell rfl
  have cKA3 : u2.cell? ⟨w.heap.size, 3, none⟩ = some (.int .i64 a3) := KA.out.cell rfl
  go_wp2_with fail
  clear ltKA cKA0 cKA1 cKA2 cKA3
  ((with_reducible refine (HE.out u2 V (HVV.out.below HB.out)).mono ?_))
  rintro e u3 ⟨rfl, hb⟩
  have HB := Lib.hid (bstep HB.out hb)
  have KA := Lib.hid (KA.out.below' hb)
  clear hb
  have ltKA := KA.out.lt
  have cKA0 : u3.cell? ⟨w.heap.size, 0, none⟩ = some (.int .i64 a0) := KA.out.cell rfl
  have cKA1 : u3.cell? ⟨w.heap.size, 1, none⟩ = some (.int .i64 a1) := KA.out.cell rfl
  have cKA2 : u3.cell? ⟨w.heap.size, 2, none⟩ = some (.int .i64 a2) := KA.out.cell rfl
  have cKA3 : u3.cell? ⟨w.heap.size, 3, none⟩ = some (.int .i64 a3) := KA.out.cell rfl
  go_wp2_with fail
  clear ltKA cKA0 cKA1 cKA2 cKA3
  ((with_reducible refine (HF.out u3).mono ?_))
  rintro e u4 ⟨rfl, hb⟩
  have HB := Lib.hid (bstep HB.out hb)
  have KA := Lib.hid (KA.out.below' hb)
  clear hb
  go_wp2_with fail
  ((with_reducible refine (HC.out u4).mono ?_))
  rintro e w' ⟨rfl, rfl⟩
  go_wp2_with fail
  ((with_reducible refine (HD.out u4 V (HVV.out.below HB.out)).mono ?_))
  rintro e u5 ⟨rfl, hb⟩
  have HB := Lib.hid (bstep HB.out hb)
  have KA := Lib.hid (KA.out.below' hb)
  clear hb
  have HB := Lib.hid (bel_al HB.out (.cells #[.int .i64 b0, .int .i64 b1, .int .i64 b2, .int .i64 b3] 23))
  have KA := Lib.hid (KA.out.alloc (.cells #[.int .i64 b0, .int .i64 b1, .int .i64 b2, .int .i64 b3] 23))
  have KM := Lib.hid (Blk.new u5 #[.int .i64 b0, .int .i64 b1, .int .i64 b2, .int .i64 b3] 23)
  go_wp2_with fail
  generalize u5.alloc (.cells #[.int .i64 b0, .int .i64 b1, .int .i64 b2, .int .i64 b3] 23) = v6 at HB KA KM ⊢
  ((with_reducible refine (HC.out v6).mono ?_))
  rintro e w' ⟨rfl, rfl⟩
  go_wp2_with fail
  ((with_reducible refine (HG.out v6).mono ?_))
  rintro e u7 ⟨rfl, hb⟩
  have HB := Lib.hid (bstep HB.out hb)
  have KA := Lib.hid (KA.out.below' hb)
  have KM := Lib.hid (KM.out.below' hb)
  clear hb
  go_wp2
  have HB := Lib.hid (bel_al HB.out (.cells #[.int .i64 b0, .int .i64 b1, .int .i64 b2, .int .i64 b3] 23))
  have KA := Lib.hid (KA.out.alloc (.cells #[.int .i64 b0, .int .i64 b1, .int .i64 b2, .int .i64 b3] 23))
  have KM := Lib.hid (KM.out.alloc (.cells #[.int .i64 b0, .int .i64 b1, .int .i64 b2, .int .i64 b3] 23))
  have KN := Lib.hid (Blk.new u7 #[.int .i64 b0, .int .i64 b1, .int .i64 b2, .int .i64 b3] 23)
  generalize u7.alloc (.cells #[.int .i64 b0, .int .i64 b1, .int .i64 b2, .int .i64 b3] 23) = v8 at HB KA KM KN ⊢
  clear HE HF HC HD HG
  have rKA0 : v8.cell? ⟨w.heap.size, 0, none⟩ = some (.int .i64 a0) := KA.out.cell rfl
  have rKA1 : v8.cell? ⟨w.heap.size, 1, none⟩ = some (.int .i64 a1) := KA.out.cell rfl
  have rKA2 : v8.cell? ⟨w.heap.size, 2, none⟩ = some (.int .i64 a2) := KA.out.cell rfl
  have rKA3 : v8.cell? ⟨w.heap.size, 3, none⟩ = some (.int .i64 a3) := KA.out.cell rfl
  have rKM0 : v8.cell? ⟨u5.heap.size, 0, none⟩ = some (.int .i64 b0) := KM.out.cell rfl
  have rKM1 : v8.cell? ⟨u5.heap.size, 1, none⟩ = some (.int .i64 b1) := KM.out.cell rfl
  have rKM2 : v8.cell? ⟨u5.heap.size, 2, none⟩ = some (.int .i64 b2) := KM.out.cell rfl
  have rKM3 : v8.cell? ⟨u5.heap.size, 3, none⟩ = some (.int .i64 b3) := KM.out.cell rfl
  have rKN0 : v8.cell? ⟨u7.heap.size, 0, none⟩ = some (.int .i64 b0) := KN.out.cell rfl
  have rKN1 : v8.cell? ⟨u7.heap.size, 1, none⟩ = some (.int .i64 b1) := KN.out.cell rfl
  have rKN2 : v8.cell? ⟨u7.heap.size, 2, none⟩ = some (.int .i64 b2) := KN.out.cell rfl
  have rKN3 : v8.cell? ⟨u7.heap.size, 3, none⟩ = some (.int .i64 b3) := KN.out.cell rfl
  go_region_held3 (fun w' => w'.cell? ⟨w.heap.size, 0, none⟩ = some (.int .i64 a0) ∧ w'.cell? ⟨w.heap.size, 1, none⟩ = some (.int .i64 a1) ∧ w'.cell? ⟨w.heap.size, 2, none⟩ = some (.int .i64 a2) ∧ w'.cell? ⟨w.heap.size, 3, none⟩ = some (.int .i64 a3) ∧ w'.cell? ⟨u5.heap.size, 0, none⟩ = some (.int .i64 b0) ∧ w'.cell? ⟨u5.heap.size, 1, none⟩ = some (.int .i64 b1) ∧ w'.cell? ⟨u5.heap.size, 2, none⟩ = some (.int .i64 b2) ∧ w'.cell? ⟨u5.heap.size, 3, none⟩ = some (.int .i64 b3) ∧ w'.cell? ⟨u7.heap.size, 0, none⟩ = some (.int .i64 b0) ∧ w'.cell? ⟨u7.heap.size, 1, none⟩ = some (.int .i64 b1) ∧ w'.cell? ⟨u7.heap.size, 2, none⟩ = some (.int .i64 b2) ∧ w'.cell? ⟨u7.heap.size, 3, none⟩ = some (.int .i64 b3))
    (with_reducible first | exact ⟨rKA0, rKA1, rKA2, rKA3, rKM0, rKM1, rKM2, rKM3, rKN0, rKN1, rKN2, rKN3⟩ | exact ⟨cell_dr rKA0, cell_dr rKA1, cell_dr rKA2, cell_dr rKA3, cell_dr rKM0, cell_dr rKM1, cell_dr rKM2, cell_dr rKM3, cell_dr rKN0, cell_dr rKN1, cell_dr rKN2, cell_dr rKN3⟩ | exact ⟨rKA0_b, rKA1_b, rKA2_b, rKA3_b, rKM0_b, rKM1_b, rKM2_b, rKM3_b, rKN0_b, rKN1_b, rKN2_b, rKN3_b⟩ | exact ⟨rKA0_a, rKA1_a, rKA2_a, rKA3_a, rKM0_a, rKM1_a, rKM2_a, rKM3_a, rKN0_a, rKN1_a, rKN2_a, rKN3_a⟩ | exact ⟨rKA0_d, rKA1_d, rKA2_d, rKA3_d, rKM0_d, rKM1_d, rKM2_d, rKM3_d, rKN0_d, rKN1_d, rKN2_d, rKN3_d⟩ | exact ⟨rKA0_c, rKA1_c, rKA2_c, rKA3_c, rKM0_c, rKM1_c, rKM2_c, rKM3_c, rKN0_c, rKN1_c, rKN2_c, rKN3_c⟩ | fail)
    (first
        | (go_at_call 15; ((with_reducible refine (HR.out v8.drew V (HVV.out.below (bel_dr HB.out))).mono ?_)); rintro e x0 ⟨rfl, hb⟩; have rKA0_a := cell_below (cell_dr rKA0) hb; have rKA1_a := cell_below (cell_dr rKA1) hb; have rKA2_a := cell_below (cell_dr rKA2) hb; have rKA3_a := cell_below (cell_dr rKA3) hb; have rKM0_a := cell_below (cell_dr rKM0) hb; have rKM1_a := cell_below (cell_dr rKM1) hb; have rKM2_a := cell_below (cell_dr rKM2) hb; have rKM3_a := cell_below (cell_dr rKM3) hb; have rKN0_a := cell_below (cell_dr rKN0) hb; have rKN1_a := cell_below (cell_dr rKN1) hb; have rKN2_a := cell_below (cell_dr rKN2) hb; have rKN3_a := cell_below (cell_dr rKN3) hb; have HX := Lib.hid (bstep (bel_dr HB.out) hb); clear hb)
        | (go_at_call 16; ((with_reducible refine (HQ.out x0).mono ?_)); rintro e x1 ⟨rfl, hb⟩; have rKA0_b := cell_below rKA0_a hb; have rKA1_b := cell_below rKA1_a hb; have rKA2_b := cell_below rKA2_a hb; have rKA3_b := cell_below rKA3_a hb; have rKM0_b := cell_below rKM0_a hb; have rKM1_b := cell_below rKM1_a hb; have rKM2_b := cell_below rKM2_a hb; have rKM3_b := cell_below rKM3_a hb; have rKN0_b := cell_below rKN0_a hb; have rKN1_b := cell_below rKN1_a hb; have rKN2_b := cell_below rKN2_a hb; have rKN3_b := cell_below rKN3_a hb; have HZ := Lib.hid (bstep HX.out hb); clear hb)
        | (go_at_call 16; ((with_reducible refine (HQ.out v8.drew).mono ?_)); rintro e y0 ⟨rfl, hb⟩; have rKA0_c := cell_below (cell_dr rKA0) hb; have rKA1_c := cell_below (cell_dr rKA1) hb; have rKA2_c := cell_below (cell_dr rKA2) hb; have rKA3_c := cell_below (cell_dr rKA3) hb; have rKM0_c := cell_below (cell_dr rKM0) hb; have rKM1_c := cell_below (cell_dr rKM1) hb; have rKM2_c := cell_below (cell_dr rKM2) hb; have rKM3_c := cell_below (cell_dr rKM3) hb; have rKN0_c := cell_below (cell_dr rKN0) hb; have rKN1_c := cell_below (cell_dr rKN1) hb; have rKN2_c := cell_below (cell_dr rKN2) hb; have rKN3_c := cell_below (cell_dr rKN3) hb; have HY := Lib.hid (bstep (bel_dr HB.out) hb); clear hb)
        | (go_at_call 15; ((with_reducible refine (HR.out y0 V (HVV.out.below HY.out)).mono ?_)); rintro e y1 ⟨rfl, hb⟩; have rKA0_d := cell_below rKA0_c hb; have rKA1_d := cell_below rKA1_c hb; have rKA2_d := cell_below rKA2_c hb; have rKA3_d := cell_below rKA3_c hb; have rKM0_d := cell_below rKM0_c hb; have rKM1_d := cell_below rKM1_c hb; have rKM2_d := cell_below rKM2_c hb; have rKM3_d := cell_below rKM3_c hb; have rKN0_d := cell_below rKN0_c hb; have rKN1_d := cell_below rKN1_c hb; have rKN2_d := cell_below rKN2_c hb; have rKN3_d := cell_below rKN3_c hb; have HZ := Lib.hid (bstep HY.out hb); clear hb)
        | (go_at_call 17; ((with_reducible refine (HT.out _).mono ?_)); rintro e w' ⟨rfl, rfl⟩)
        | (go_at_call 18; ((with_reducible refine (HU.out _).mono ?_)); rintro e w' ⟨rfl, rfl⟩)
        | fail)
  all_goals
    go_wp2
    go_ret
    exact ⟨rfl, HZ.out⟩
theorem lawHeadCodes (x : Mk) (s : ByteArray) (n : Int) (w : World) (V : HR) (hV : HV w V) : Calls Tryd.prog 3 #[.agg (mkA x), .string s, .int .i64 n] w fun e w' => e = .returned (.bool true) ∧ Below w.heap.size w w' := by
  obtain ⟨X, hC⟩ := cut_text s
  have hD := fun W V h => hDec_any X W V h
  have hG := fun W => rDec_any X W
  have hR := fun W V h => hright_any x W V h
  have hQ := fun W => rright_any x W
  have hm : ∃ m : Mk, marO (decL X.data.toList) = mkA m := by
    cases decL X.data.toList with
    | none => exact ⟨⟨0, 0, 0, 0⟩, rfl⟩
    | some m => exact ⟨m, rfl⟩
  obtain ⟨m, hm⟩ := hm
  rw [hm] at hD hG
  rcases mk_split x with hx | ⟨K, L, C, E, rfl, hK, hL, hC', hE⟩
  · exact codes_any x.k x.l x.c x.e m.k m.l m.c m.e 60 _ n _ s _ X _ (fun W V h => henc_no x hx W V h) (fun W => rEnc_no x hx W) hC hD hG hR hQ (fun W => turn_any n W) (fun W => rturn_any n W) w V hV
  · exact codes_any _ _ _ _ m.k m.l m.c m.e 0 _ n _ s _ X _ (fun W V h => henc_yes K L C E hK hL hC' hE W V h) (fun W => rEnc_yes K L C E hK hL hC' hE W) hC hD hG hR hQ (fun W => turn_any n W) (fun W => rturn_any n W) w V hV
end Go.Proofs.YtmikkbhillkpkaaDoor
