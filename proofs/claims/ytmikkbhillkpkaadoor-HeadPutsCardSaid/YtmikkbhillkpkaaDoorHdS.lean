/-
  head.Put without an arena; selionlaw06.shown.
-/
import Derived.Test.YtmikkbhillkpkaaDoorHdL
namespace Go.Proofs.YtmikkbhillkpkaaDoor
open Go.RowKit Go.Lib Go.Shelf
attribute [local go_sem] Oper.semAt_some
set_option linter.unusedSimpArgs false
set_option linter.unusedVariables false

theorem bel_al {w W : World} (h : Below w.heap.size w W) (o : Obj) : Below w.heap.size w (W.alloc o) := h.alloc h.size o
theorem bel_dr {w W : World} (h : Below w.heap.size w W) : Below w.heap.size w W.drew := h.drew
theorem hput_nil (at_ : Int) (a b c d : Int) (w : World) (V : HR) (hV : HV w V) : Calls Tryd.prog 22 #[.pointer none, .int .i64 at_, .agg #[.int .i64 a, .int .i64 b, .int .i64 c, .int .i64 d]] w fun e w' => e = .returned (.int .i64 1) ∧ Below w.heap.size w w' := by
  obtain ⟨b0, hB0, hs0⟩ := blk1 w #[.int .i64 a, .int .i64 b, .int .i64 c, .int .i64 d] 23
  have cN := hV.cN.1
  have HN := Lib.hid (hnum_nil V _ (hV.below hB0))
  have HB := Lib.hid hB0
  have hgl : 2 < w.heap.size := World.block_lt_of_cell? w _ cN
  clear hV b0 hB0 hs0
  go_enter Tryd.func22, Tryd.ntmps22
  go_wp2_with fail
  ((with_reducible refine HN.out.mono ?_))
  rintro e w' ⟨rfl, rfl⟩
  go_wp2
  go_ret
  exact ⟨rfl, HB.out⟩
theorem enc_S (W : World) (V : HR) (hV : HV W V) : Calls Tryd.prog 10 #[.agg #[.int .i64 2, .int .i64 300, .int .i64 1, .int .i64 7]] W fun e w' => e = .returned (.tuple #[.string ⟨#[181, 2, 1, 7, 44, 1, 0, 156]⟩, .int .i64 0]) ∧ Below W.heap.size W w' := by
  have h := henc_yes 2 300 1 7 (by omega) (by omega) (by omega) (by omega) W V hV
  rw [show hd8 2 300 1 7 = [181, 2, 1, 7, 44, 1, 0, 156] by decide] at h
  exact h
theorem dec_S (W : World) (V : HR) (hV : HV W V) : Calls Tryd.prog 12 #[.string ⟨#[181, 2, 1, 7, 44, 1, 0, 156]⟩] W fun e w' => e = .returned (.tuple #[.agg #[.int .i64 2, .int .i64 300, .int .i64 1, .int .i64 7], .int .i64 0]) ∧ Below W.heap.size W w' :=
  hDec_some _ (mkN 2 300 1 7) (by rfl) W V hV
theorem dec_S2 (W : World) (V : HR) (hV : HV W V) : Calls Tryd.prog 12 #[.string ⟨#[181, 2, 1, 7, 44, 1, 0, 157]⟩] W fun e w' => e = .returned (.tuple #[.agg #[.int .i64 0, .int .i64 0, .int .i64 0, .int .i64 0], .int .i64 60]) ∧ Below W.heap.size W w' :=
  hDec_none _ (by rfl) W V hV
set_option maxRecDepth 100000 in
set_option maxHeartbeats 1000000 in
theorem shown06 (w : World) (V : HR) (hV : HV w V) : Calls Tryd.prog 9 #[] w fun e w' => e = .returned (.bool true) ∧ Below w.heap.size w w' := by
  have HVV := Lib.hid hV
  have HT := Lib.hid (fun W => turn_any 255 W)
  rw [show turnZ 255 = 0 by decide] at HT
  clear hV
  have HB := Lib.hid (Below.refl w.heap.size w)
  go_enter Tryd.func9, Tryd.ntmps9
  go_wp2_with fail
  ((with_reducible refine (enc_S w V (HVV.out.below HB.out)).mono ?_))
  rintro e u1 ⟨rfl, hb⟩
  have HB := Lib.hid (bstep HB.out hb)
  clear hb
  go_wp2_with fail
  ((with_reducible refine (dec_S u1 V (HVV.out.below HB.out)).mono ?_))
  rintro e u2 ⟨rfl, hb⟩
  have HB := Lib.hid (bstep HB.out hb)
  clear hb
  have HB := Lib.hid (bel_al HB.out (.cells #[.int .i64 2, .int .i64 300, .int .i64 1, .int .i64 7] 23))
  have KC := Lib.hid (Blk.new u2 #[.int .i64 2, .int .i64 300, .int .i64 1, .int .i64 7] 23)
  go_wp2_with fail
  generalize u2.alloc (.cells #[.int .i64 2, .int .i64 300, .int .i64 1, .int .i64 7] 23) = v3 at HB KC ⊢
  ((with_reducible refine (dec_S2 v3 V (HVV.out.below HB.out)).mono ?_))
  rintro e u4 ⟨rfl, hb⟩
  have HB := Lib.hid (bstep HB.out hb)
  have KC := Lib.hid (KC.out.below' hb)
  clear hb
  have ltKC := KC.out.lt
  have cKC0 : u4.cell? ⟨u2.heap.size, 0, none⟩ = some (.int .i64 2) := KC.out.cell rfl
  have cKC1 : u4.cell? ⟨u2.heap.size, 1, none⟩ = some (.int .i64 300) := KC.out.cell rfl
  have cKC2 : u4.cell? ⟨u2.heap.size, 2, none⟩ = some (.int .i64 1) := KC.out.cell rfl
  have cKC3 : u4.cell? ⟨u2.heap.size, 3, none⟩ = some (.int .i64 7) := KC.out.cell rfl
  have HB := Lib.hid (bel_al HB.out (.cells #[.int .i64 0, .int .i64 0, .int .i64 0, .int .i64 0] 23))
  have KC := Lib.hid (KC.out.alloc (.cells #[.int .i64 0, .int .i64 0, .int .i64 0, .int .i64 0] 23))
  have KD := Lib.hid (Blk.new u4 #[.int .i64 0, .int .i64 0, .int .i64 0, .int .i64 0] 23)
  go_wp2_with fail
  generalize u4.alloc (.cells #[.int .i64 0, .int .i64 0, .int .i64 0, .int .i64 0] 23) = v5 at HB KC KD ⊢
  clear ltKC cKC0 cKC1 cKC2 cKC3
  ((with_reducible refine (HT.out v5).mono ?_))
  rintro e w' ⟨rfl, rfl⟩
  have cK0 : v5.cell? ⟨u2.heap.size, 0, none⟩ = some (.int .i64 2) := KC.out.cell rfl
  have cK1 : v5.cell? ⟨u2.heap.size, 1, none⟩ = some (.int .i64 300) := KC.out.cell rfl
  have cK2 : v5.cell? ⟨u2.heap.size, 2, none⟩ = some (.int .i64 1) := KC.out.cell rfl
  have cK3 : v5.cell? ⟨u2.heap.size, 3, none⟩ = some (.int .i64 7) := KC.out.cell rfl
  go_wp2_with fail
  ((with_reducible refine (hput_nil 0 2 300 1 7 v5 V (HVV.out.below HB.out)).mono ?_))
  rintro e u9 ⟨rfl, hb⟩
  have HB9 := Lib.hid (bstep HB.out hb)
  clear hb cK0 cK1 cK2 cK3
  go_wp2
  go_ret
  exact ⟨rfl, HB9.out⟩
end Go.Proofs.YtmikkbhillkpkaaDoor
