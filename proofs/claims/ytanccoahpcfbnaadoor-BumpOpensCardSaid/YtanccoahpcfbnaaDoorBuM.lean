/-
  selionlaw11.BumpOpens, for every input.
-/
import Derived.Test.YtanccoahpcfbnaaDoorRgB
import Derived.Test.YtanccoahpcfbnaaDoorBuE
import Derived.Test.YtanccoahpcfbnaaDoorLaidB
namespace Go.Proofs.YtanccoahpcfbnaaDoor
open Go.RowKit Go.Lib Go.Shelf Ad
attribute [local go_sem] Oper.semAt_some
set_option linter.unusedSimpArgs false
set_option linter.unusedVariables false

theorem own_bel {W W' : World} {base : Nat} {e : TypeId} {size n : Nat} {v : Value} {xs : List Value} (h : W.ownsRow base e size v n xs) (hb : Below W.heap.size W W') : W'.ownsRow base e size v n xs :=
  h.kept (row := none) ⟨hb.os, hb.tape, hb.output, hb.size, fun k hk _ => hb.block k hk⟩ (Classical.em _)
set_option maxRecDepth 100000 in
set_option maxHeartbeats 2000000 in
theorem lawBumpOpens_walk (p : Option Addr) (n cap : Nat) (b l B0 A0 L0 : Int) (w : World) (aA aS aR : Addr) (hV : AV w aA aS aR) (hl : n ≤ cap) (hm : cap ≤ maxLen) (a1 b1 d1 a2 b2 d2 : Int) (s1 s2 : Bool) (B : Int) (hs : List (Nat × Nat)) (hlen : hs.length ≤ 1000)
    (ho : ∀ W, Below w.heap.size w W → Calls Tryd.prog 20 #[.slice p (min n 34) cap, .int .i64 b, .int .i64 l] W fun e w' => e = .returned (.tuple #[.agg #[.int .i64 a1, .int .i64 b1, .int .i64 d1], .bool s1]) ∧ Below W.heap.size W w')
    (hro : ∀ W, Below w.heap.size w W → Calls Tryd.prog 23 #[.slice p (min n 34) cap, .int .i64 b, .int .i64 l] W fun e w' => e = .returned (.tuple #[.agg #[.int .i64 a1, .int .i64 b1, .int .i64 d1], .bool s1]) ∧ Below W.heap.size W w')
    (hn : ∀ W, Below w.heap.size w W → Calls Tryd.prog 24 #[.slice p (min n 34) cap, .agg #[.int .i64 B0, .int .i64 A0, .int .i64 L0]] W fun e w' => e = .returned (.tuple #[.agg #[.int .i64 a2, .int .i64 b2, .int .i64 d2], .bool s2]) ∧ Below W.heap.size W w')
    (hrn : ∀ W, Below w.heap.size w W → Calls Tryd.prog 25 #[.slice p (min n 34) cap, .agg #[.int .i64 B0, .int .i64 A0, .int .i64 L0]] W fun e w' => e = .returned (.tuple #[.agg #[.int .i64 a2, .int .i64 b2, .int .i64 d2], .bool s2]) ∧ Below W.heap.size W w')
    (ha : ∀ W, Below w.heap.size w W → Calls Tryd.prog 27 #[.slice p (min n 34) cap, .agg #[.int .i64 B0, .int .i64 A0, .int .i64 L0]] W (CuPost W B hs))
    (hra : ∀ W, Below w.heap.size w W → Calls Tryd.prog 28 #[.slice p (min n 34) cap, .agg #[.int .i64 B0, .int .i64 A0, .int .i64 L0]] W (CuPost W B hs)) :
    Calls Tryd.prog 6 #[.slice p n cap, .int .i64 b, .int .i64 l, .agg #[.int .i64 B0, .int .i64 A0, .int .i64 L0]] w fun e w' => e = .returned (.bool true) ∧ Below w.heap.size w w' := by
  have HS := Lib.hid (fun W (hW : Below w.heap.size w W) => shown11 W aA aS aR (hV.below hW))
  have HC := Lib.hid (fun W => cut_any p n cap W hl hm)
  have Ho := Lib.hid ho
  have Hro := Lib.hid hro
  have Hn := Lib.hid hn
  have Hrn := Lib.hid hrn
  have Ha := Lib.hid ha
  have Hra := Lib.hid hra
  have heq := cur_eq a1 b1 d1 a1 b1 d1
  have heq2 := cur_eq a2 b2 d2 a2 b2 d2
  simp only [beq_self_eq_true, Bool.and_self] at heq heq2
  clear hV hl hm ho hro hn hrn ha hra
  have HB := Lib.hid (Below.refl w.heap.size w)
  go_enter Tryd.func6, Tryd.ntmps6
  have HB := Lib.hid (bel_al HB.out (.cells #[.int .i64 B0, .int .i64 A0, .int .i64 L0] 23))
  have KC := Lib.hid (Blk.new w #[.int .i64 B0, .int .i64 A0, .int .i64 L0] 23)
  go_wp2_with fail
  generalize w.alloc (.cells #[.int .i64 B0, .int .i64 A0, .int .i64 L0] 23) = v1 at HB KC ⊢
  ((with_reducible refine (HS.out v1 HB.out).mono ?_))
  rintro e u2 ⟨rfl, hb⟩
  have HB := Lib.hid (bstep HB.out hb)
  have KC := Lib.hid (KC.out.below' hb)
  clear hb
  go_wp2_with fail
  ((with_reducible refine (HC.out u2).mono ?_))
  rintro e w' ⟨rfl, rfl⟩
  go_wp2_with fail
  ((with_reducible refine (Ho.out u2 HB.out).mono ?_))
  rintro e u3 ⟨rfl, hb⟩
  have HB := Lib.hid (bstep HB.out hb)
  have KC := Lib.hid (KC.out.below' hb)
  clear hb
  have HB := Lib.hid (bel_al HB.out (.cells #[.int .i64 a1, .int .i64 b1, .int .i64 d1] 23))
  have KC := Lib.hid (KC.out.alloc (.cells #[.int .i64 a1, .int .i64 b1, .int .i64 d1] 23))
  have KA := Lib.hid (Blk.new u3 #[.int .i64 a1, .int .i64 b1, .int .i64 d1] 23)
  go_wp2_with fail
  generalize u3.alloc (.cells #[.int .i64 a1, .int .i64 b1, .int .i64 d1] 23) = v4 at HB KC KA ⊢
  ((with_reducible refine (Hro.out v4 HB.out).mono ?_))
  rintro e u5 ⟨rfl, hb⟩
  have HB := Lib.hid (bstep HB.out hb)
  have KC := Lib.hid (KC.out.below' hb)
  have KA := Lib.hid (KA.out.below' hb)
  clear hb
  have ltKC := KC.out.lt
  have cKC0 : u5.cell? ⟨w.heap.size, 0, none⟩ = some (.int .i64 B0) := KC.out.cell rfl
  have cKC1 : u5.cell? ⟨w.heap.size, 1, none⟩ = some (.int .i64 A0) := KC.out.cell rfl
  have cKC2 : u5.cell? ⟨w.heap.size, 2, none⟩ = some (.int .i64 L0) := KC.out.cell rfl
  have HB := Lib.hid (bel_al HB.out (.cells #[.int .i64 a1, .int .i64 b1, .int .i64 d1] 23))
  have KC := Lib.hid (KC.out.alloc (.cells #[.int .i64 a1, .int .i64 b1, .int .i64 d1] 23))
  have KA := Lib.hid (KA.out.alloc (.cells #[.int .i64 a1, .int .i64 b1, .int .i64 d1] 23))
  have KB := Lib.hid (Blk.new u5 #[.int .i64 a1, .int .i64 b1, .int .i64 d1] 23)
  go_wp2_with fail
  generalize u5.alloc (.cells #[.int .i64 a1, .int .i64 b1, .int .i64 d1] 23) = v6 at HB KC KA KB ⊢
  clear ltKC cKC0 cKC1 cKC2
  ((with_reducible refine (Hn.out v6 HB.out).mono ?_))
  rintro e u7 ⟨rfl, hb⟩
  have HB := Lib.hid (bstep HB.out hb)
  have KC := Lib.hid (KC.out.below' hb)
  have KA := Lib.hid (KA.out.below' hb)
  have KB := Lib.hid (KB.out.below' hb)
  clear hb
  have ltKC := KC.out.lt
  have cKC0 : u7.cell? ⟨w.heap.size, 0, none⟩ = some (.int .i64 B0) := KC.out.cell rfl
  have cKC1 : u7.cell? ⟨w.heap.size, 1, none⟩ = some (.int .i64 A0) := KC.out.cell rfl
  have cKC2 : u7.cell? ⟨w.heap.size, 2, none⟩ = some (.int .i64 L0) := KC.out.cell rfl
  have HB := Lib.hid (bel_al HB.out (.cells #[.int .i64 a2, .int .i64 b2, .int .i64 d2] 23))
  have KC := Lib.hid (KC.out.alloc (.cells #[.int .i64 a2, .int .i64 b2, .int .i64 d2] 23))
  have KA := Lib.hid (KA.out.alloc (.cells #[.int .i64 a2, .int .i64 b2, .int .i64 d2] 23))
  have KB := Lib.hid (KB.out.alloc (.cells #[.int .i64 a2, .int .i64 b2, .int .i64 d2] 23))
  have KD := Lib.hid (Blk.new u7 #[.int .i64 a2, .int .i64 b2, .int .i64 d2] 23)
  go_wp2_with fail
  generalize u7.alloc (.cells #[.int .i64 a2, .int .i64 b2, .int .i64 d2] 23) = v8 at HB KC KA KB KD ⊢
  clear ltKC cKC0 cKC1 cKC2
  ((with_reducible refine (Hrn.out v8 HB.out).mono ?_))
  rintro e u9 ⟨rfl, hb⟩
  have HB := Lib.hid (bstep HB.out hb)
  have KC := Lib.hid (KC.out.below' hb)
  have KA := Lib.hid (KA.out.below' hb)
  have KB := Lib.hid (KB.out.below' hb)
  have KD := Lib.hid (KD.out.below' hb)
  clear hb
  go_wp2
  have HB := Lib.hid (bel_al HB.out (.cells #[.int .i64 a2, .int .i64 b2, .int .i64 d2] 23))
  have KC := Lib.hid (KC.out.alloc (.cells #[.int .i64 a2, .int .i64 b2, .int .i64 d2] 23))
  have KA := Lib.hid (KA.out.alloc (.cells #[.int .i64 a2, .int .i64 b2, .int .i64 d2] 23))
  have KB := Lib.hid (KB.out.alloc (.cells #[.int .i64 a2, .int .i64 b2, .int .i64 d2] 23))
  have KD := Lib.hid (KD.out.alloc (.cells #[.int .i64 a2, .int .i64 b2, .int .i64 d2] 23))
  have KE := Lib.hid (Blk.new u9 #[.int .i64 a2, .int .i64 b2, .int .i64 d2] 23)
  generalize u9.alloc (.cells #[.int .i64 a2, .int .i64 b2, .int .i64 d2] 23) = v10 at HB KC KA KB KD KE ⊢
  have rKC0 : v10.cell? ⟨w.heap.size, 0, none⟩ = some (.int .i64 B0) := KC.out.cell rfl
  have rKC1 : v10.cell? ⟨w.heap.size, 1, none⟩ = some (.int .i64 A0) := KC.out.cell rfl
  have rKC2 : v10.cell? ⟨w.heap.size, 2, none⟩ = some (.int .i64 L0) := KC.out.cell rfl
  have rKA0 : v10.cell? ⟨u3.heap.size, 0, none⟩ = some (.int .i64 a1) := KA.out.cell rfl
  have rKA1 : v10.cell? ⟨u3.heap.size, 1, none⟩ = some (.int .i64 b1) := KA.out.cell rfl
  have rKA2 : v10.cell? ⟨u3.heap.size, 2, none⟩ = some (.int .i64 d1) := KA.out.cell rfl
  have rKB0 : v10.cell? ⟨u5.heap.size, 0, none⟩ = some (.int .i64 a1) := KB.out.cell rfl
  have rKB1 : v10.cell? ⟨u5.heap.size, 1, none⟩ = some (.int .i64 b1) := KB.out.cell rfl
  have rKB2 : v10.cell? ⟨u5.heap.size, 2, none⟩ = some (.int .i64 d1) := KB.out.cell rfl
  have rKD0 : v10.cell? ⟨u7.heap.size, 0, none⟩ = some (.int .i64 a2) := KD.out.cell rfl
  have rKD1 : v10.cell? ⟨u7.heap.size, 1, none⟩ = some (.int .i64 b2) := KD.out.cell rfl
  have rKD2 : v10.cell? ⟨u7.heap.size, 2, none⟩ = some (.int .i64 d2) := KD.out.cell rfl
  have rKE0 : v10.cell? ⟨u9.heap.size, 0, none⟩ = some (.int .i64 a2) := KE.out.cell rfl
  have rKE1 : v10.cell? ⟨u9.heap.size, 1, none⟩ = some (.int .i64 b2) := KE.out.cell rfl
  have rKE2 : v10.cell? ⟨u9.heap.size, 2, none⟩ = some (.int .i64 d2) := KE.out.cell rfl
  go_region_held3 (fun w' => w'.cell? ⟨w.heap.size, 0, none⟩ = some (.int .i64 B0) ∧ w'.cell? ⟨w.heap.size, 1, none⟩ = some (.int .i64 A0) ∧ w'.cell? ⟨w.heap.size, 2, none⟩ = some (.int .i64 L0) ∧ w'.cell? ⟨u3.heap.size, 0, none⟩ = some (.int .i64 a1) ∧ w'.cell? ⟨u3.heap.size, 1, none⟩ = some (.int .i64 b1) ∧ w'.cell? ⟨u3.heap.size, 2, none⟩ = some (.int .i64 d1) ∧ w'.cell? ⟨u5.heap.size, 0, none⟩ = some (.int .i64 a1) ∧ w'.cell? ⟨u5.heap.size, 1, none⟩ = some (.int .i64 b1) ∧ w'.cell? ⟨u5.heap.size, 2, none⟩ = some (.int .i64 d1) ∧ w'.cell? ⟨u7.heap.size, 0, none⟩ = some (.int .i64 a2) ∧ w'.cell? ⟨u7.heap.size, 1, none⟩ = some (.int .i64 b2) ∧ w'.cell? ⟨u7.heap.size, 2, none⟩ = some (.int .i64 d2) ∧ w'.cell? ⟨u9.heap.size, 0, none⟩ = some (.int .i64 a2) ∧ w'.cell? ⟨u9.heap.size, 1, none⟩ = some (.int .i64 b2) ∧ w'.cell? ⟨u9.heap.size, 2, none⟩ = some (.int .i64 d2))
    (with_reducible first | exact ⟨rKC0, rKC1, rKC2, rKA0, rKA1, rKA2, rKB0, rKB1, rKB2, rKD0, rKD1, rKD2, rKE0, rKE1, rKE2⟩ | exact ⟨cell_dr rKC0, cell_dr rKC1, cell_dr rKC2, cell_dr rKA0, cell_dr rKA1, cell_dr rKA2, cell_dr rKB0, cell_dr rKB1, cell_dr rKB2, cell_dr rKD0, cell_dr rKD1, cell_dr rKD2, cell_dr rKE0, cell_dr rKE1, cell_dr rKE2⟩ | exact ⟨rKC0_0, rKC1_0, rKC2_0, rKA0_0, rKA1_0, rKA2_0, rKB0_0, rKB1_0, rKB2_0, rKD0_0, rKD1_0, rKD2_0, rKE0_0, rKE1_0, rKE2_0⟩ | exact ⟨rKC0_1, rKC1_1, rKC2_1, rKA0_1, rKA1_1, rKA2_1, rKB0_1, rKB1_1, rKB2_1, rKD0_1, rKD1_1, rKD2_1, rKE0_1, rKE1_1, rKE2_1⟩ | exact ⟨rKC0_2, rKC1_2, rKC2_2, rKA0_2, rKA1_2, rKA2_2, rKB0_2, rKB1_2, rKB2_2, rKD0_2, rKD1_2, rKD2_2, rKE0_2, rKE1_2, rKE2_2⟩)
    (first
        | (go_at_call 27; ((with_reducible refine (Ha.out v10.drew (bel_dr HB.out)).mono ?_)); rintro e x10_0 ⟨lv1, rfl, row1, hb⟩; have rKC0_0 := cell_below (cell_dr rKC0) hb; have rKC1_0 := cell_below (cell_dr rKC1) hb; have rKC2_0 := cell_below (cell_dr rKC2) hb; have rKA0_0 := cell_below (cell_dr rKA0) hb; have rKA1_0 := cell_below (cell_dr rKA1) hb; have rKA2_0 := cell_below (cell_dr rKA2) hb; have rKB0_0 := cell_below (cell_dr rKB0) hb; have rKB1_0 := cell_below (cell_dr rKB1) hb; have rKB2_0 := cell_below (cell_dr rKB2) hb; have rKD0_0 := cell_below (cell_dr rKD0) hb; have rKD1_0 := cell_below (cell_dr rKD1) hb; have rKD2_0 := cell_below (cell_dr rKD2) hb; have rKE0_0 := cell_below (cell_dr rKE0) hb; have rKE1_0 := cell_below (cell_dr rKE1) hb; have rKE2_0 := cell_below (cell_dr rKE2) hb; have KC_10_0 := Lib.hid (KC.out.drew.below' hb); have KA_10_0 := Lib.hid (KA.out.drew.below' hb); have KB_10_0 := Lib.hid (KB.out.drew.below' hb); have KD_10_0 := Lib.hid (KD.out.drew.below' hb); have KE_10_0 := Lib.hid (KE.out.drew.below' hb); have HX10_0 := Lib.hid (bstep (bel_dr HB.out) hb); have ROW1 := Lib.hid row1; clear hb; clear row1)
        | (go_at_call 28; ((with_reducible refine (Hra.out x10_0 HX10_0.out).mono ?_)); rintro e x10_1 ⟨lv2, rfl, row2, hb⟩; have rKC0_1 := cell_below rKC0_0 hb; have rKC1_1 := cell_below rKC1_0 hb; have rKC2_1 := cell_below rKC2_0 hb; have rKA0_1 := cell_below rKA0_0 hb; have rKA1_1 := cell_below rKA1_0 hb; have rKA2_1 := cell_below rKA2_0 hb; have rKB0_1 := cell_below rKB0_0 hb; have rKB1_1 := cell_below rKB1_0 hb; have rKB2_1 := cell_below rKB2_0 hb; have rKD0_1 := cell_below rKD0_0 hb; have rKD1_1 := cell_below rKD1_0 hb; have rKD2_1 := cell_below rKD2_0 hb; have rKE0_1 := cell_below rKE0_0 hb; have rKE1_1 := cell_below rKE1_0 hb; have rKE2_1 := cell_below rKE2_0 hb; have KC_10_1 := Lib.hid (KC_10_0.out.below' hb); have KA_10_1 := Lib.hid (KA_10_0.out.below' hb); have KB_10_1 := Lib.hid (KB_10_0.out.below' hb); have KD_10_1 := Lib.hid (KD_10_0.out.below' hb); have KE_10_1 := Lib.hid (KE_10_0.out.below' hb); have HX10_1 := Lib.hid (bstep HX10_0.out hb); have ROW2 := Lib.hid row2; have ROW3 := Lib.hid (own_bel ROW1.out hb); clear hb; clear row2)
        | (go_at_call 26; ((with_reducible refine (rsame_yes lv1 lv2 B hs x10_1 _ _ ROW3.out ROW2.out hlen).mono ?_)); rintro e x10_2 ⟨rfl, hb⟩; have rKC0_2 := cell_below rKC0_1 hb; have rKC1_2 := cell_below rKC1_1 hb; have rKC2_2 := cell_below rKC2_1 hb; have rKA0_2 := cell_below rKA0_1 hb; have rKA1_2 := cell_below rKA1_1 hb; have rKA2_2 := cell_below rKA2_1 hb; have rKB0_2 := cell_below rKB0_1 hb; have rKB1_2 := cell_below rKB1_1 hb; have rKB2_2 := cell_below rKB2_1 hb; have rKD0_2 := cell_below rKD0_1 hb; have rKD1_2 := cell_below rKD1_1 hb; have rKD2_2 := cell_below rKD2_1 hb; have rKE0_2 := cell_below rKE0_1 hb; have rKE1_2 := cell_below rKE1_1 hb; have rKE2_2 := cell_below rKE2_1 hb; have KC_10_2 := Lib.hid (KC_10_1.out.below' hb); have KA_10_2 := Lib.hid (KA_10_1.out.below' hb); have KB_10_2 := Lib.hid (KB_10_1.out.below' hb); have KD_10_2 := Lib.hid (KD_10_1.out.below' hb); have KE_10_2 := Lib.hid (KE_10_1.out.below' hb); have HX10_2 := Lib.hid (bstep HX10_1.out hb); clear hb))
  have KC := KC_10_2
  have KA := KA_10_2
  have KB := KB_10_2
  have KD := KD_10_2
  have KE := KE_10_2
  have HB := HX10_2
  clear rKC0 rKC1 rKC2 rKA0 rKA1 rKA2 rKB0 rKB1 rKB2 rKD0 rKD1 rKD2 rKE0 rKE1 rKE2 rKC0_0 rKC0_1 rKC0_2 rKC1_0 rKC1_1 rKC1_2 rKC2_0 rKC2_1 rKC2_2 rKA0_0 rKA0_1 rKA0_2 rKA1_0 rKA1_1 rKA1_2 rKA2_0 rKA2_1 rKA2_2 rKB0_0 rKB0_1 rKB0_2 rKB1_0 rKB1_1 rKB1_2 rKB2_0 rKB2_1 rKB2_2 rKD0_0 rKD0_1 rKD0_2 rKD1_0 rKD1_1 rKD1_2 rKD2_0 rKD2_1 rKD2_2 rKE0_0 rKE0_1 rKE0_2 rKE1_0 rKE1_1 rKE1_2 rKE2_0 rKE2_1 rKE2_2
  go_wp2
  go_ret
  exact ⟨rfl, HB.out⟩
theorem lawBumpOpens_of (p : Option Addr) (n cap : Nat) (b l B0 A0 L0 : Int) (w : World) (aA aS aR : Addr) (hV : AV w aA aS aR) (hl : n ≤ cap) (hm : cap ≤ maxLen) (F : Int → Option (Nat × Nat)) (hN : NxAt w (.slice p (min n 34) cap) F) (hR : RNxAt w (.slice p (min n 34) cap) F) (hF : InL F) (B : Int) (hs : List (Nat × Nat)) (hC : Chn F B (B0, A0, L0) hs) (hB : hs ≠ [] → 0 ≤ B ∧ B < 32) :
    Calls Tryd.prog 6 #[.slice p n cap, .int .i64 b, .int .i64 l, .agg #[.int .i64 B0, .int .i64 A0, .int .i64 L0]] w fun e w' => e = .returned (.bool true) ∧ Below w.heap.size w w' := by
  obtain ⟨a1, b1, d1, e1⟩ := cur_abc (openC b (F l))
  obtain ⟨a2, b2, d2, e2⟩ := cur_abc (nextC F (B0, A0, L0))
  refine lawBumpOpens_walk p n cap b l B0 A0 L0 w aA aS aR hV hl hm a1 b1 d1 a2 b2 d2 (openC b (F l)).isSome (nextC F (B0, A0, L0)).isSome B hs (by have := hC.len; omega) ?_ ?_ ?_ ?_ ?_ ?_
  · intro W hW
    have := open_any _ b l W F (hN.below hW) hF aA aS aR (hV.below hW)
    rwa [curV, e1] at this
  · intro W hW
    have := ropen_any _ b l W F (hR.below hW) hF
    rwa [curV, e1] at this
  · intro W hW
    have := bnext_any p (min n 34) cap (B0, A0, L0) W F (hN.below hW) hF aA aS aR (hV.below hW)
    rwa [curV, e2] at this
  · intro W hW
    have := rbnext_any p (min n 34) cap (B0, A0, L0) W F (hR.below hW) hF
    rwa [curV, e2] at this
  · intro W hW
    exact ball_any p (min n 34) cap B0 A0 L0 W F (hN.below hW) hF aA aS aR (hV.below hW) B hs hC hB
  · intro W hW
    exact rall_any p (min n 34) cap B0 A0 L0 W F (hR.below hW) hF B hs hC
theorem lawBumpOpens (p : Option Addr) (n cap : Nat) (b l B0 A0 L0 : Int) (w : World) (aA aS aR : Addr) (hV : AV w aA aS aR) (hl : n ≤ cap) (hm : cap ≤ maxLen) (hI : IC w p n) (_ : InI b) (_ : InI l) (_ : InI B0) (_ : InI A0) (_ : InI L0) :
    Calls Tryd.prog 6 #[.slice p n cap, .int .i64 b, .int .i64 l, .agg #[.int .i64 B0, .int .i64 A0, .int .i64 L0]] w fun e w' => e = .returned (.bool true) ∧ Below w.heap.size w w' := by
  rcases tabOr_of (cap := cap) hI with h | ⟨tb, to, z, rfl, rfl, hT, hr⟩
  · refine lawBumpOpens_of p n cap b l B0 A0 L0 w aA aS aR hV hl hm (fun _ => none) (no_nx h) (rno_nx (fun i hi => hI i (by omega)) (by omega) h) no_in 0 [] (chn_nil _ 0 _ ?_) (fun h => absurd rfl h)
    unfold nextC openC
    split <;> (try split) <;> rfl
  · obtain ⟨B, hs, hC, hB⟩ := chn_tab (keptZ z) (B0, A0, L0)
    exact lawBumpOpens_of _ 32 cap b l B0 A0 L0 w aA aS aR hV hl hm (FT (keptZ z)) (tab_nx hT hr) (rtab_nx hT hr) (tab_in _) B hs hC hB
end Go.Proofs.YtanccoahpcfbnaaDoor
