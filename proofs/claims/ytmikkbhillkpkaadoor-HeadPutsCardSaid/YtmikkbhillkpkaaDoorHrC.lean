/-
  selionref06.Decode.
-/
import Derived.Test.YtmikkbhillkpkaaDoorHrB
import Derived.Test.YtmikkbhillkpkaaDoorHdU
namespace Go.Proofs.YtmikkbhillkpkaaDoor
open Go.RowKit Go.Lib Go.Shelf
attribute [local go_sem] Oper.semAt_some
set_option linter.unusedSimpArgs false
set_option linter.unusedVariables false

theorem rDec_len (s : ByteArray) (h : s.size ≠ 8) (w : World) : Calls Tryd.prog 14 #[.string s] w fun e w' => e = .returned (.tuple #[.agg mk0, .int .i64 60]) ∧ Below w.heap.size w w' := by
  have hd : ((s.size : Int) != 8) = true := by simp; omega
  clear h
  go_enter Tryd.func14, Tryd.ntmps14
  go_wp2
  refine bodyPost_ret (v := .tuple #[.agg mk0, .int .i64 60]) (by simp [results, Tryd.results14, go_sem]) rfl ⟨rfl, ?_⟩
  repeat (first | exact Below.refl _ _ | refine bel_al' ?_ _ | refine bel_set' ?_ (by simp; try omega) | refine bel_dr' ?_)
theorem wrI (x : Int) (h0 : 0 ≤ x) (h1 : x < 9223372036854775808) : IntKind.i64.wrap x = x := IntWalk.i64_in _ (by omega)
theorem wX1 (a : UInt8) : IntKind.i64.wrap ((a.toNat : Int)) = (a.toNat : Int) := by have := a.toNat_lt; exact wrI _ (by omega) (by omega)
theorem wY1 (a : UInt8) : wrap64 ((a.toNat : Int)) = (a.toNat : Int) := by have := a.toNat_lt; exact wr64 _ (by omega) (by omega)
theorem wX2 (a : UInt8) : IntKind.i64.wrap (256 * (a.toNat : Int)) = 256 * (a.toNat : Int) := by have := a.toNat_lt; exact wrI _ (by omega) (by omega)
theorem wY2 (a : UInt8) : wrap64 (256 * (a.toNat : Int)) = 256 * (a.toNat : Int) := by have := a.toNat_lt; exact wr64 _ (by omega) (by omega)
theorem wX3 (a b : UInt8) : IntKind.i64.wrap ((a.toNat : Int) + 256 * (b.toNat : Int)) = (a.toNat : Int) + 256 * (b.toNat : Int) := by have := a.toNat_lt; have := b.toNat_lt; exact wrI _ (by omega) (by omega)
theorem wY3 (a b : UInt8) : wrap64 ((a.toNat : Int) + 256 * (b.toNat : Int)) = (a.toNat : Int) + 256 * (b.toNat : Int) := by have := a.toNat_lt; have := b.toNat_lt; exact wr64 _ (by omega) (by omega)
theorem wX4 (a : UInt8) : IntKind.i64.wrap (65536 * (a.toNat : Int)) = 65536 * (a.toNat : Int) := by have := a.toNat_lt; exact wrI _ (by omega) (by omega)
theorem wY4 (a : UInt8) : wrap64 (65536 * (a.toNat : Int)) = 65536 * (a.toNat : Int) := by have := a.toNat_lt; exact wr64 _ (by omega) (by omega)
theorem wX5 (a b c : UInt8) : IntKind.i64.wrap ((a.toNat : Int) + 256 * (b.toNat : Int) + 65536 * (c.toNat : Int)) = (a.toNat : Int) + 256 * (b.toNat : Int) + 65536 * (c.toNat : Int) := by have := a.toNat_lt; have := b.toNat_lt; have := c.toNat_lt; exact wrI _ (by omega) (by omega)
theorem wY5 (a b c : UInt8) : wrap64 ((a.toNat : Int) + 256 * (b.toNat : Int) + 65536 * (c.toNat : Int)) = (a.toNat : Int) + 256 * (b.toNat : Int) + 65536 * (c.toNat : Int) := by have := a.toNat_lt; have := b.toNat_lt; have := c.toNat_lt; exact wr64 _ (by omega) (by omega)
set_option maxRecDepth 100000 in
set_option maxHeartbeats 2000000 in
theorem rDec_no (c0 c1 c2 c3 c4 c5 c6 c7 : UInt8)  (hE : ∀ W, Calls Tryd.prog 11 #[.agg #[.int .i64 (c1.toNat : Int), .int .i64 ((c4.toNat : Int) + 256 * (c5.toNat : Int) + 65536 * (c6.toNat : Int)), .int .i64 (c2.toNat : Int), .int .i64 (c3.toNat : Int)]] W fun e w' => e = .returned (.tuple #[.string ⟨#[]⟩, .int .i64 60]) ∧ Below W.heap.size W w') (w : World) :
    Calls Tryd.prog 14 #[.string (b8 c0 c1 c2 c3 c4 c5 c6 c7)] w fun e w' => e = .returned (.tuple #[.agg #[.int .i64 0, .int .i64 0, .int .i64 0, .int .i64 0], .int .i64 60]) ∧ Below w.heap.size w w' := by
  have HE := Lib.hid hE
  have x1 := wX1 c1
  have y1 := wY1 c1
  have x2 := wX1 c2
  have y2 := wY1 c2
  have x3 := wX1 c3
  have y3 := wY1 c3
  have x4 := wX1 c4
  have y4 := wY1 c4
  have x5 := wX1 c5
  have y5 := wY1 c5
  have x6 := wX1 c6
  have y6 := wY1 c6
  have x10 := wX2 c5
  have y10 := wY2 c5
  have x11 := wX3 c4 c5
  have y11 := wY3 c4 c5
  have x12 := wX4 c6
  have y12 := wY4 c6
  have x13 := wX5 c4 c5 c6
  have y13 := wY5 c4 c5 c6
  have i1 : (b8 c0 c1 c2 c3 c4 c5 c6 c7)[1]'(by show 1 < 8; omega) = c1 := rfl
  have i2 : (b8 c0 c1 c2 c3 c4 c5 c6 c7)[2]'(by show 2 < 8; omega) = c2 := rfl
  have i3 : (b8 c0 c1 c2 c3 c4 c5 c6 c7)[3]'(by show 3 < 8; omega) = c3 := rfl
  have i4 : (b8 c0 c1 c2 c3 c4 c5 c6 c7)[4]'(by show 4 < 8; omega) = c4 := rfl
  have i5 : (b8 c0 c1 c2 c3 c4 c5 c6 c7)[5]'(by show 5 < 8; omega) = c5 := rfl
  have i6 : (b8 c0 c1 c2 c3 c4 c5 c6 c7)[6]'(by show 6 < 8; omega) = c6 := rfl
  obtain ⟨b0, hB0, hs0⟩ := blk1 w #[.int .i64 0, .int .i64 0, .int .i64 0, .int .i64 0] 23
  have HM := Lib.hid b0
  have HB := Lib.hid hB0
  clear hE hB0 b0 hs0
  go_enter Tryd.func14, Tryd.ntmps14
  go_wp2
  generalize w.alloc (.cells #[.int .i64 0, .int .i64 0, .int .i64 0, .int .i64 0] 23) = r0 at HB HM ⊢
  refine wp_region_noPanic ?_
  refine wp_region_held_drew (S := fun _ => True) (by kernel_rfl) ?_ (fun hH0 => ?_)
  · trivial
  have HB := Lib.hid (bel_dr' HB.out)
  have HM := Lib.hid HM.out.drew
  generalize r0.drew = r1 at HB HM ⊢
  refine wpAnyH_take (i := 0) (v := ?_) (by simp only [List.getElem?_toArray, List.getElem?_cons_succ, List.getElem?_cons_zero]; rfl) (by kernel_rfl) (by kernel_rfl) (by kernel_rfl) (fun _ _ _ h => (h : False).elim) (Or.inl ⟨by rfl, ?_⟩) hH0 ?_
  rotate_left
  · intro w hSw; (try dsimp only at hSw); go_simp; try with_reducible rfl
  try simp only [Act.put, List.setIfInBounds_toArray, List.set_cons_zero, List.set_cons_succ]
  refine wpAnyH_take (i := 1) (v := ?_) (by simp only [List.getElem?_toArray, List.getElem?_cons_succ, List.getElem?_cons_zero]; rfl) (by kernel_rfl) (by kernel_rfl) (by kernel_rfl) (fun _ _ _ h => (h : False).elim) (Or.inl ⟨by rfl, ?_⟩) hH0 ?_
  rotate_left
  · intro w hSw; (try dsimp only at hSw); go_simp; try with_reducible rfl
  try simp only [Act.put, List.setIfInBounds_toArray, List.set_cons_zero, List.set_cons_succ]
  refine wpAnyH_take (i := 2) (v := ?_) (by simp only [List.getElem?_toArray, List.getElem?_cons_succ, List.getElem?_cons_zero]; rfl) (by kernel_rfl) (by kernel_rfl) (by kernel_rfl) (fun _ _ _ h => (h : False).elim) (Or.inl ⟨by rfl, ?_⟩) hH0 ?_
  rotate_left
  · intro w hSw; (try dsimp only at hSw); go_simp; try with_reducible rfl
  try simp only [Act.put, List.setIfInBounds_toArray, List.set_cons_zero, List.set_cons_succ]
  refine wpAnyH_take (i := 3) (v := ?_) (by simp only [List.getElem?_toArray, List.getElem?_cons_succ, List.getElem?_cons_zero]; rfl) (by kernel_rfl) (by kernel_rfl) (by kernel_rfl) (fun _ _ _ h => (h : False).elim) (Or.inl ⟨by rfl, ?_⟩) hH0 ?_
  rotate_left
  · intro w hSw; (try dsimp only at hSw); go_simp; try with_reducible rfl
  try simp only [Act.put, List.setIfInBounds_toArray, List.set_cons_zero, List.set_cons_succ]
  refine wpAnyH_take (i := 4) (v := ?_) (by simp only [List.getElem?_toArray, List.getElem?_cons_succ, List.getElem?_cons_zero]; rfl) (by kernel_rfl) (by kernel_rfl) (by kernel_rfl) (fun _ _ _ h => (h : False).elim) (Or.inl ⟨by rfl, ?_⟩) hH0 ?_
  rotate_left
  · intro w hSw; (try dsimp only at hSw); go_simp; try with_reducible rfl
  try simp only [Act.put, List.setIfInBounds_toArray, List.set_cons_zero, List.set_cons_succ]
  refine wpAnyH_take (i := 5) (v := ?_) (by simp only [List.getElem?_toArray, List.getElem?_cons_succ, List.getElem?_cons_zero]; rfl) (by kernel_rfl) (by kernel_rfl) (by kernel_rfl) (fun _ _ _ h => (h : False).elim) (Or.inl ⟨by rfl, ?_⟩) hH0 ?_
  rotate_left
  · intro w hSw; (try dsimp only at hSw); go_simp; try with_reducible rfl
  try simp only [Act.put, List.setIfInBounds_toArray, List.set_cons_zero, List.set_cons_succ]
  refine wpAnyH_take (i := 6) (v := ?_) (by simp only [List.getElem?_toArray, List.getElem?_cons_succ, List.getElem?_cons_zero]; rfl) (by kernel_rfl) (by kernel_rfl) (by kernel_rfl) (fun _ _ _ h => (h : False).elim) (Or.inl ⟨by rfl, ?_⟩) hH0 ?_
  rotate_left
  · intro w hSw; (try dsimp only at hSw); go_simp; try with_reducible rfl
  try simp only [Act.put, List.setIfInBounds_toArray, List.set_cons_zero, List.set_cons_succ]
  refine wpAnyH_take (i := 7) (v := ?_) (by simp only [List.getElem?_toArray, List.getElem?_cons_succ, List.getElem?_cons_zero]; rfl) (by kernel_rfl) (by kernel_rfl) (by kernel_rfl) (fun _ _ _ h => (h : False).elim) (Or.inl ⟨by rfl, ?_⟩) hH0 ?_
  rotate_left
  · intro w hSw; (try dsimp only at hSw); go_simp; try with_reducible rfl
  try simp only [Act.put, List.setIfInBounds_toArray, List.set_cons_zero, List.set_cons_succ]
  refine wpAnyH_take (i := 8) (v := ?_) (by simp only [List.getElem?_toArray, List.getElem?_cons_succ, List.getElem?_cons_zero]; rfl) (by kernel_rfl) (by kernel_rfl) (by kernel_rfl) (fun _ _ _ h => (h : False).elim) (Or.inl ⟨by rfl, ?_⟩) hH0 ?_
  rotate_left
  · intro w hSw; (try dsimp only at hSw); go_simp; try with_reducible rfl
  try simp only [Act.put, List.setIfInBounds_toArray, List.set_cons_zero, List.set_cons_succ]
  refine wpAnyH_take (i := 9) (v := ?_) (by simp only [List.getElem?_toArray, List.getElem?_cons_succ, List.getElem?_cons_zero]; rfl) (by kernel_rfl) (by kernel_rfl) (by kernel_rfl) (fun _ _ _ h => (h : False).elim) (Or.inl ⟨by rfl, ?_⟩) hH0 ?_
  rotate_left
  · intro w hSw; (try dsimp only at hSw); go_simp; try with_reducible rfl
  try simp only [Act.put, List.setIfInBounds_toArray, List.set_cons_zero, List.set_cons_succ]
  refine wpAnyH_take (i := 10) (v := ?_) (by simp only [List.getElem?_toArray, List.getElem?_cons_succ, List.getElem?_cons_zero]; rfl) (by kernel_rfl) (by kernel_rfl) (by kernel_rfl) (fun _ _ _ h => (h : False).elim) (Or.inl ⟨by rfl, ?_⟩) hH0 ?_
  rotate_left
  · intro w hSw; (try dsimp only at hSw); go_simp; try with_reducible rfl
  try simp only [Act.put, List.setIfInBounds_toArray, List.set_cons_zero, List.set_cons_succ]
  refine wpAnyH_take (i := 11) (v := ?_) (by simp only [List.getElem?_toArray, List.getElem?_cons_succ, List.getElem?_cons_zero]; rfl) (by kernel_rfl) (by kernel_rfl) (by kernel_rfl) (fun _ _ _ h => (h : False).elim) (Or.inl ⟨by rfl, ?_⟩) hH0 ?_
  rotate_left
  · intro w hSw; (try dsimp only at hSw); go_simp; try with_reducible rfl
  try simp only [Act.put, List.setIfInBounds_toArray, List.set_cons_zero, List.set_cons_succ]
  refine wpAnyH_take (i := 12) (v := ?_) (by simp only [List.getElem?_toArray, List.getElem?_cons_succ, List.getElem?_cons_zero]; rfl) (by kernel_rfl) (by kernel_rfl) (by kernel_rfl) (fun _ _ _ h => (h : False).elim) (Or.inl ⟨by rfl, ?_⟩) hH0 ?_
  rotate_left
  · intro w hSw; (try dsimp only at hSw); go_simp; try with_reducible rfl
  try simp only [Act.put, List.setIfInBounds_toArray, List.set_cons_zero, List.set_cons_succ]
  refine wpAnyH_take (i := 13) (v := ?_) (by simp only [List.getElem?_toArray, List.getElem?_cons_succ, List.getElem?_cons_zero]; rfl) (by kernel_rfl) (by kernel_rfl) (by kernel_rfl) (fun _ _ _ h => (h : False).elim) (Or.inl ⟨by rfl, ?_⟩) hH0 ?_
  rotate_left
  · intro w hSw; (try dsimp only at hSw); go_simp; try with_reducible rfl
  try simp only [Act.put, List.setIfInBounds_toArray, List.set_cons_zero, List.set_cons_succ]
  refine wpAnyH_take (i := 14) (v := ?_) (by simp only [List.getElem?_toArray, List.getElem?_cons_succ, List.getElem?_cons_zero]; rfl) (by kernel_rfl) (by kernel_rfl) (by kernel_rfl) (fun _ _ _ h => (h : False).elim) (Or.inl ⟨by rfl, ?_⟩) hH0 ?_
  rotate_left
  · intro w hSw; (try dsimp only at hSw); go_simp; try with_reducible rfl
  try simp only [Act.put, List.setIfInBounds_toArray, List.set_cons_zero, List.set_cons_succ]
  refine wpAnyH_take (i := 15) (v := ?_) (by simp only [List.getElem?_toArray, List.getElem?_cons_succ, List.getElem?_cons_zero]; rfl) (by kernel_rfl) (by kernel_rfl) (by kernel_rfl) (fun _ _ _ h => (h : False).elim) (Or.inl ⟨by rfl, ?_⟩) hH0 ?_
  rotate_left
  · intro w hSw; (try dsimp only at hSw); go_simp; try with_reducible rfl
  try simp only [Act.put, List.setIfInBounds_toArray, List.set_cons_zero, List.set_cons_succ]
  refine wpAnyH_take (i := 16) (v := ?_) (by simp only [List.getElem?_toArray, List.getElem?_cons_succ, List.getElem?_cons_zero]; rfl) (by kernel_rfl) (by kernel_rfl) (by kernel_rfl) (fun _ _ _ h => (h : False).elim) (Or.inl ⟨by rfl, ?_⟩) hH0 ?_
  rotate_left
  · intro w hSw; (try dsimp only at hSw); go_simp; try with_reducible rfl
  try simp only [Act.put, List.setIfInBounds_toArray, List.set_cons_zero, List.set_cons_succ]
  refine wpAnyH_take (i := 17) (v := ?_) (by simp only [List.getElem?_toArray, List.getElem?_cons_succ, List.getElem?_cons_zero]; rfl) (by kernel_rfl) (by kernel_rfl) (by kernel_rfl) (fun _ _ _ h => (h : False).elim) (Or.inl ⟨by rfl, ?_⟩) hH0 ?_
  rotate_left
  · intro w hSw; (try dsimp only at hSw); go_simp; try with_reducible rfl
  try simp only [Act.put, List.setIfInBounds_toArray, List.set_cons_zero, List.set_cons_succ]
  refine wpAnyH_take (i := 18) (v := ?_) (by simp only [List.getElem?_toArray, List.getElem?_cons_succ, List.getElem?_cons_zero]; rfl) (by kernel_rfl) (by kernel_rfl) (by kernel_rfl) (fun _ _ _ h => (h : False).elim) (Or.inl ⟨by rfl, ?_⟩) hH0 ?_
  rotate_left
  · intro w hSw; (try dsimp only at hSw); go_simp; try with_reducible rfl
  try simp only [Act.put, List.setIfInBounds_toArray, List.set_cons_zero, List.set_cons_succ]
  refine wpAnyH_take (i := 19) (v := ?_) (by simp only [List.getElem?_toArray, List.getElem?_cons_succ, List.getElem?_cons_zero]; rfl) (by kernel_rfl) (by kernel_rfl) (by kernel_rfl) (fun _ _ _ h => (h : False).elim) (Or.inl ⟨by rfl, ?_⟩) hH0 ?_
  rotate_left
  · intro w hSw; (try dsimp only at hSw); go_simp; try with_reducible rfl
  try simp only [Act.put, List.setIfInBounds_toArray, List.set_cons_zero, List.set_cons_succ]
  refine wpAnyH_take (i := 20) (v := ?_) (by simp only [List.getElem?_toArray, List.getElem?_cons_succ, List.getElem?_cons_zero]; rfl) (by kernel_rfl) (by kernel_rfl) (by kernel_rfl) (fun _ _ _ h => (h : False).elim) (Or.inl ⟨by rfl, ?_⟩) hH0 ?_
  rotate_left
  · intro w hSw; (try dsimp only at hSw); go_simp; try with_reducible rfl
  try simp only [Act.put, List.setIfInBounds_toArray, List.set_cons_zero, List.set_cons_succ]
  refine wpAnyH_take (i := 21) (v := ?_) (by simp only [List.getElem?_toArray, List.getElem?_cons_succ, List.getElem?_cons_zero]; rfl) (by kernel_rfl) (by kernel_rfl) (by kernel_rfl) (fun _ _ _ h => (h : False).elim) (Or.inl ⟨by rfl, ?_⟩) hH0 ?_
  rotate_left
  · intro w hSw; (try dsimp only at hSw); go_simp; try with_reducible rfl
  try simp only [Act.put, List.setIfInBounds_toArray, List.set_cons_zero, List.set_cons_succ]
  refine wpAnyH_take (i := 22) (v := ?_) (by simp only [List.getElem?_toArray, List.getElem?_cons_succ, List.getElem?_cons_zero]; rfl) (by kernel_rfl) (by kernel_rfl) (by kernel_rfl) (fun _ _ _ h => (h : False).elim) (Or.inl ⟨by rfl, ?_⟩) hH0 ?_
  rotate_left
  · intro w hSw; (try dsimp only at hSw); go_simp; try with_reducible rfl
  try simp only [Act.put, List.setIfInBounds_toArray, List.set_cons_zero, List.set_cons_succ]
  refine wpAnyH_ready (rs := [23]) (by kernel_rfl) (by simp) ?_
  refine AllReadyH.cons rfl (fun K hK => ?_) AllReadyH.nil
  try simp only [Act.put, List.setIfInBounds_toArray, List.set_cons_zero, List.set_cons_succ]
  go_simp
  refine hK.out _ _ ?_ (fun hH1 => ?_)
  · trivial
  clear hK K hH0
  try simp only [Act.put, List.setIfInBounds_toArray, List.set_cons_zero, List.set_cons_succ]
  have hsz := HB.out.size
  have hml := HM.out.lt
  have HSZ := Lib.hid hsz
  have HNE := Lib.hid (show w.heap.size ≠ r1.heap.size by omega)
  clear hsz hml
  have HB := Lib.hid (bel_al' HB.out (.cells #[.int .i64 0, .int .i64 0, .int .i64 0, .int .i64 0] 23))
  have HM := Lib.hid (HM.out.alloc (.cells #[.int .i64 0, .int .i64 0, .int .i64 0, .int .i64 0] 23))
  have KM := Lib.hid (Blk.new r1 #[.int .i64 0, .int .i64 0, .int .i64 0, .int .i64 0] 23)
  generalize r1.alloc (.cells #[.int .i64 0, .int .i64 0, .int .i64 0, .int .i64 0] 23) = r2 at HB HM KM ⊢
  refine wpAnyH_ready (rs := [24]) (by kernel_rfl) (by simp) ?_
  refine AllReadyH.cons rfl (fun K hK => ?_) AllReadyH.nil
  try simp only [Act.put, List.setIfInBounds_toArray, List.set_cons_zero, List.set_cons_succ]
  have m0 : r2.cell? ⟨r1.heap.size, 0, none⟩ = some (.int .i64 0) := KM.out.cell rfl
  have e0 := KM.out.frozen 0
  have m1 : r2.cell? ⟨r1.heap.size, 1, none⟩ = some (.int .i64 0) := KM.out.cell rfl
  have e1 := KM.out.frozen 1
  have m2 : r2.cell? ⟨r1.heap.size, 2, none⟩ = some (.int .i64 0) := KM.out.cell rfl
  have e2 := KM.out.frozen 2
  have m3 : r2.cell? ⟨r1.heap.size, 3, none⟩ = some (.int .i64 0) := KM.out.cell rfl
  have e3 := KM.out.frozen 3
  have lm := KM.out.lt
  go_simp
  refine hK.out _ _ ?_ (fun hH2 => ?_)
  · trivial
  clear hK K hH1
  try simp only [Act.put, List.setIfInBounds_toArray, List.set_cons_zero, List.set_cons_succ]
  refine wpAnyH_done (by kernel_rfl) ?_ _
  refine NoPanic.normal ?_
  clear hH2 m0 m1 m2 m3 e0 e1 e2 e3 lm x1 y1 x2 y2 x3 y3 x4 y4 x5 y5 x6 y6 x10 y10 x11 y11 x12 y12 x13 y13
  have HB := Lib.hid (bel_set' (k := 3) (v := .int .i64 (c3.toNat : Int)) (bel_set' (k := 2) (v := .int .i64 (c2.toNat : Int)) (bel_set' (k := 1) (v := .int .i64 ((c4.toNat : Int) + 256 * (c5.toNat : Int) + 65536 * (c6.toNat : Int))) (bel_set' (k := 0) (v := .int .i64 (c1.toNat : Int)) HB.out HSZ.out) HSZ.out) HSZ.out) HSZ.out)
  have HM := Lib.hid ((((HM.out.other HNE.out 0 (.int .i64 (c1.toNat : Int))).other HNE.out 1 (.int .i64 ((c4.toNat : Int) + 256 * (c5.toNat : Int) + 65536 * (c6.toNat : Int)))).other HNE.out 2 (.int .i64 (c2.toNat : Int))).other HNE.out 3 (.int .i64 (c3.toNat : Int)))
  have KM := Lib.hid ((((KM.out.set 0 (.int .i64 (c1.toNat : Int))).set 1 (.int .i64 ((c4.toNat : Int) + 256 * (c5.toNat : Int) + 65536 * (c6.toNat : Int)))).set 2 (.int .i64 (c2.toNat : Int))).set 3 (.int .i64 (c3.toNat : Int)))
  generalize ((((r2.setCell ⟨r1.heap.size, 0, none⟩ (.int .i64 (c1.toNat : Int))).setCell ⟨r1.heap.size, 1, none⟩ (.int .i64 ((c4.toNat : Int) + 256 * (c5.toNat : Int) + 65536 * (c6.toNat : Int)))).setCell ⟨r1.heap.size, 2, none⟩ (.int .i64 (c2.toNat : Int))).setCell ⟨r1.heap.size, 3, none⟩ (.int .i64 (c3.toNat : Int))) = r3 at HB HM KM ⊢
  simp only [List.setIfInBounds_toArray, List.set_cons_zero, List.set_cons_succ] at KM
  have m0 : r3.cell? ⟨r1.heap.size, 0, none⟩ = some (.int .i64 (c1.toNat : Int)) := KM.out.cell rfl
  have m1 : r3.cell? ⟨r1.heap.size, 1, none⟩ = some (.int .i64 ((c4.toNat : Int) + 256 * (c5.toNat : Int) + 65536 * (c6.toNat : Int))) := KM.out.cell rfl
  have m2 : r3.cell? ⟨r1.heap.size, 2, none⟩ = some (.int .i64 (c2.toNat : Int)) := KM.out.cell rfl
  have m3 : r3.cell? ⟨r1.heap.size, 3, none⟩ = some (.int .i64 (c3.toNat : Int)) := KM.out.cell rfl
  have lm := KM.out.lt
  go_wp2_with fail
  clear m0 m1 m2 m3 lm
  ((with_reducible refine (HE.out r3).mono ?_))
  rintro e r4 ⟨rfl, hb⟩
  have HB := Lib.hid (bstep HB.out hb)
  have HM := Lib.hid (HM.out.below' hb)
  have KM := Lib.hid (KM.out.below' hb)
  clear hb
  have m0 : r4.cell? ⟨r1.heap.size, 0, none⟩ = some (.int .i64 (c1.toNat : Int)) := KM.out.cell rfl
  have n0 : r4.cell? ⟨w.heap.size, 0, none⟩ = some (.int .i64 0) := HM.out.cell rfl
  have e0 := HM.out.frozen 0
  have m1 : r4.cell? ⟨r1.heap.size, 1, none⟩ = some (.int .i64 ((c4.toNat : Int) + 256 * (c5.toNat : Int) + 65536 * (c6.toNat : Int))) := KM.out.cell rfl
  have n1 : r4.cell? ⟨w.heap.size, 1, none⟩ = some (.int .i64 0) := HM.out.cell rfl
  have e1 := HM.out.frozen 1
  have m2 : r4.cell? ⟨r1.heap.size, 2, none⟩ = some (.int .i64 (c2.toNat : Int)) := KM.out.cell rfl
  have n2 : r4.cell? ⟨w.heap.size, 2, none⟩ = some (.int .i64 0) := HM.out.cell rfl
  have e2 := HM.out.frozen 2
  have m3 : r4.cell? ⟨r1.heap.size, 3, none⟩ = some (.int .i64 (c3.toNat : Int)) := KM.out.cell rfl
  have n3 : r4.cell? ⟨w.heap.size, 3, none⟩ = some (.int .i64 0) := HM.out.cell rfl
  have e3 := HM.out.frozen 3
  have lm := KM.out.lt
  have ln := HM.out.lt
  go_wp2
  refine bodyPost_ret (v := .tuple #[.agg #[.int .i64 0, .int .i64 0, .int .i64 0, .int .i64 0], .int .i64 60]) (by simp [results, Tryd.results14, go_sem, n0, n1, n2, n3, e0, e1, e2, e3, ln]) rfl ⟨rfl, ?_⟩
  repeat (first | exact HB.out | refine bel_al' ?_ _ | refine bel_set' ?_ (Nat.le_refl _) | refine bel_dr' ?_)
set_option maxRecDepth 100000 in
set_option maxHeartbeats 2000000 in
theorem rDec_eq (c0 c1 c2 c3 c4 c5 c6 c7 : UInt8)  (hE : ∀ W, Calls Tryd.prog 11 #[.agg #[.int .i64 (c1.toNat : Int), .int .i64 ((c4.toNat : Int) + 256 * (c5.toNat : Int) + 65536 * (c6.toNat : Int)), .int .i64 (c2.toNat : Int), .int .i64 (c3.toNat : Int)]] W fun e w' => e = .returned (.tuple #[.string (b8 c0 c1 c2 c3 c4 c5 c6 c7), .int .i64 0]) ∧ Below W.heap.size W w') (w : World) :
    Calls Tryd.prog 14 #[.string (b8 c0 c1 c2 c3 c4 c5 c6 c7)] w fun e w' => e = .returned (.tuple #[.agg #[.int .i64 (c1.toNat : Int), .int .i64 ((c4.toNat : Int) + 256 * (c5.toNat : Int) + 65536 * (c6.toNat : Int)), .int .i64 (c2.toNat : Int), .int .i64 (c3.toNat : Int)], .int .i64 0]) ∧ Below w.heap.size w w' := by
  have HE := Lib.hid hE
  have x1 := wX1 c1
  have y1 := wY1 c1
  have x2 := wX1 c2
  have y2 := wY1 c2
  have x3 := wX1 c3
  have y3 := wY1 c3
  have x4 := wX1 c4
  have y4 := wY1 c4
  have x5 := wX1 c5
  have y5 := wY1 c5
  have x6 := wX1 c6
  have y6 := wY1 c6
  have x10 := wX2 c5
  have y10 := wY2 c5
  have x11 := wX3 c4 c5
  have y11 := wY3 c4 c5
  have x12 := wX4 c6
  have y12 := wY4 c6
  have x13 := wX5 c4 c5 c6
  have y13 := wY5 c4 c5 c6
  have i1 : (b8 c0 c1 c2 c3 c4 c5 c6 c7)[1]'(by show 1 < 8; omega) = c1 := rfl
  have i2 : (b8 c0 c1 c2 c3 c4 c5 c6 c7)[2]'(by show 2 < 8; omega) = c2 := rfl
  have i3 : (b8 c0 c1 c2 c3 c4 c5 c6 c7)[3]'(by show 3 < 8; omega) = c3 := rfl
  have i4 : (b8 c0 c1 c2 c3 c4 c5 c6 c7)[4]'(by show 4 < 8; omega) = c4 := rfl
  have i5 : (b8 c0 c1 c2 c3 c4 c5 c6 c7)[5]'(by show 5 < 8; omega) = c5 := rfl
  have i6 : (b8 c0 c1 c2 c3 c4 c5 c6 c7)[6]'(by show 6 < 8; omega) = c6 := rfl
  obtain ⟨b0, hB0, hs0⟩ := blk1 w #[.int .i64 0, .int .i64 0, .int .i64 0, .int .i64 0] 23
  have HM := Lib.hid b0
  have HB := Lib.hid hB0
  clear hE hB0 b0 hs0
  go_enter Tryd.func14, Tryd.ntmps14
  go_wp2
  generalize w.alloc (.cells #[.int .i64 0, .int .i64 0, .int .i64 0, .int .i64 0] 23) = r0 at HB HM ⊢
  refine wp_region_noPanic ?_
  refine wp_region_held_drew (S := fun _ => True) (by kernel_rfl) ?_ (fun hH0 => ?_)
  · trivial
  have HB := Lib.hid (bel_dr' HB.out)
  have HM := Lib.hid HM.out.drew
  generalize r0.drew = r1 at HB HM ⊢
  refine wpAnyH_take (i := 0) (v := ?_) (by simp only [List.getElem?_toArray, List.getElem?_cons_succ, List.getElem?_cons_zero]; rfl) (by kernel_rfl) (by kernel_rfl) (by kernel_rfl) (fun _ _ _ h => (h : False).elim) (Or.inl ⟨by rfl, ?_⟩) hH0 ?_
  rotate_left
  · intro w hSw; (try dsimp only at hSw); go_simp; try with_reducible rfl
  try simp only [Act.put, List.setIfInBounds_toArray, List.set_cons_zero, List.set_cons_succ]
  refine wpAnyH_take (i := 1) (v := ?_) (by simp only [List.getElem?_toArray, List.getElem?_cons_succ, List.getElem?_cons_zero]; rfl) (by kernel_rfl) (by kernel_rfl) (by kernel_rfl) (fun _ _ _ h => (h : False).elim) (Or.inl ⟨by rfl, ?_⟩) hH0 ?_
  rotate_left
  · intro w hSw; (try dsimp only at hSw); go_simp; try with_reducible rfl
  try simp only [Act.put, List.setIfInBounds_toArray, List.set_cons_zero, List.set_cons_succ]
  refine wpAnyH_take (i := 2) (v := ?_) (by simp only [List.getElem?_toArray, List.getElem?_cons_succ, List.getElem?_cons_zero]; rfl) (by kernel_rfl) (by kernel_rfl) (by kernel_rfl) (fun _ _ _ h => (h : False).elim) (Or.inl ⟨by rfl, ?_⟩) hH0 ?_
  rotate_left
  · intro w hSw; (try dsimp only at hSw); go_simp; try with_reducible rfl
  try simp only [Act.put, List.setIfInBounds_toArray, List.set_cons_zero, List.set_cons_succ]
  refine wpAnyH_take (i := 3) (v := ?_) (by simp only [List.getElem?_toArray, List.getElem?_cons_succ, List.getElem?_cons_zero]; rfl) (by kernel_rfl) (by kernel_rfl) (by kernel_rfl) (fun _ _ _ h => (h : False).elim) (Or.inl ⟨by rfl, ?_⟩) hH0 ?_
  rotate_left
  · intro w hSw; (try dsimp only at hSw); go_simp; try with_reducible rfl
  try simp only [Act.put, List.setIfInBounds_toArray, List.set_cons_zero, List.set_cons_succ]
  refine wpAnyH_take (i := 4) (v := ?_) (by simp only [List.getElem?_toArray, List.getElem?_cons_succ, List.getElem?_cons_zero]; rfl) (by kernel_rfl) (by kernel_rfl) (by kernel_rfl) (fun _ _ _ h => (h : False).elim) (Or.inl ⟨by rfl, ?_⟩) hH0 ?_
  rotate_left
  · intro w hSw; (try dsimp only at hSw); go_simp; try with_reducible rfl
  try simp only [Act.put, List.setIfInBounds_toArray, List.set_cons_zero, List.set_cons_succ]
  refine wpAnyH_take (i := 5) (v := ?_) (by simp only [List.getElem?_toArray, List.getElem?_cons_succ, List.getElem?_cons_zero]; rfl) (by kernel_rfl) (by kernel_rfl) (by kernel_rfl) (fun _ _ _ h => (h : False).elim) (Or.inl ⟨by rfl, ?_⟩) hH0 ?_
  rotate_left
  · intro w hSw; (try dsimp only at hSw); go_simp; try with_reducible rfl
  try simp only [Act.put, List.setIfInBounds_toArray, List.set_cons_zero, List.set_cons_succ]
  refine wpAnyH_take (i := 6) (v := ?_) (by simp only [List.getElem?_toArray, List.getElem?_cons_succ, List.getElem?_cons_zero]; rfl) (by kernel_rfl) (by kernel_rfl) (by kernel_rfl) (fun _ _ _ h => (h : False).elim) (Or.inl ⟨by rfl, ?_⟩) hH0 ?_
  rotate_left
  · intro w hSw; (try dsimp only at hSw); go_simp; try with_reducible rfl
  try simp only [Act.put, List.setIfInBounds_toArray, List.set_cons_zero, List.set_cons_succ]
  refine wpAnyH_take (i := 7) (v := ?_) (by simp only [List.getElem?_toArray, List.getElem?_cons_succ, List.getElem?_cons_zero]; rfl) (by kernel_rfl) (by kernel_rfl) (by kernel_rfl) (fun _ _ _ h => (h : False).elim) (Or.inl ⟨by rfl, ?_⟩) hH0 ?_
  rotate_left
  · intro w hSw; (try dsimp only at hSw); go_simp; try with_reducible rfl
  try simp only [Act.put, List.setIfInBounds_toArray, List.set_cons_zero, List.set_cons_succ]
  refine wpAnyH_take (i := 8) (v := ?_) (by simp only [List.getElem?_toArray, List.getElem?_cons_succ, List.getElem?_cons_zero]; rfl) (by kernel_rfl) (by kernel_rfl) (by kernel_rfl) (fun _ _ _ h => (h : False).elim) (Or.inl ⟨by rfl, ?_⟩) hH0 ?_
  rotate_left
  · intro w hSw; (try dsimp only at hSw); go_simp; try with_reducible rfl
  try simp only [Act.put, List.setIfInBounds_toArray, List.set_cons_zero, List.set_cons_succ]
  refine wpAnyH_take (i := 9) (v := ?_) (by simp only [List.getElem?_toArray, List.getElem?_cons_succ, List.getElem?_cons_zero]; rfl) (by kernel_rfl) (by kernel_rfl) (by kernel_rfl) (fun _ _ _ h => (h : False).elim) (Or.inl ⟨by rfl, ?_⟩) hH0 ?_
  rotate_left
  · intro w hSw; (try dsimp only at hSw); go_simp; try with_reducible rfl
  try simp only [Act.put, List.setIfInBounds_toArray, List.set_cons_zero, List.set_cons_succ]
  refine wpAnyH_take (i := 10) (v := ?_) (by simp only [List.getElem?_toArray, List.getElem?_cons_succ, List.getElem?_cons_zero]; rfl) (by kernel_rfl) (by kernel_rfl) (by kernel_rfl) (fun _ _ _ h => (h : False).elim) (Or.inl ⟨by rfl, ?_⟩) hH0 ?_
  rotate_left
  · intro w hSw; (try dsimp only at hSw); go_simp; try with_reducible rfl
  try simp only [Act.put, List.setIfInBounds_toArray, List.set_cons_zero, List.set_cons_succ]
  refine wpAnyH_take (i := 11) (v := ?_) (by simp only [List.getElem?_toArray, List.getElem?_cons_succ, List.getElem?_cons_zero]; rfl) (by kernel_rfl) (by kernel_rfl) (by kernel_rfl) (fun _ _ _ h => (h : False).elim) (Or.inl ⟨by rfl, ?_⟩) hH0 ?_
  rotate_left
  · intro w hSw; (try dsimp only at hSw); go_simp; try with_reducible rfl
  try simp only [Act.put, List.setIfInBounds_toArray, List.set_cons_zero, List.set_cons_succ]
  refine wpAnyH_take (i := 12) (v := ?_) (by simp only [List.getElem?_toArray, List.getElem?_cons_succ, List.getElem?_cons_zero]; rfl) (by kernel_rfl) (by kernel_rfl) (by kernel_rfl) (fun _ _ _ h => (h : False).elim) (Or.inl ⟨by rfl, ?_⟩) hH0 ?_
  rotate_left
  · intro w hSw; (try dsimp only at hSw); go_simp; try with_reducible rfl
  try simp only [Act.put, List.setIfInBounds_toArray, List.set_cons_zero, List.set_cons_succ]
  refine wpAnyH_take (i := 13) (v := ?_) (by simp only [List.getElem?_toArray, List.getElem?_cons_succ, List.getElem?_cons_zero]; rfl) (by kernel_rfl) (by kernel_rfl) (by kernel_rfl) (fun _ _ _ h => (h : False).elim) (Or.inl ⟨by rfl, ?_⟩) hH0 ?_
  rotate_left
  · intro w hSw; (try dsimp only at hSw); go_simp; try with_reducible rfl
  try simp only [Act.put, List.setIfInBounds_toArray, List.set_cons_zero, List.set_cons_succ]
  refine wpAnyH_take (i := 14) (v := ?_) (by simp only [List.getElem?_toArray, List.getElem?_cons_succ, List.getElem?_cons_zero]; rfl) (by kernel_rfl) (by kernel_rfl) (by kernel_rfl) (fun _ _ _ h => (h : False).elim) (Or.inl ⟨by rfl, ?_⟩) hH0 ?_
  rotate_left
  · intro w hSw; (try dsimp only at hSw); go_simp; try with_reducible rfl
  try simp only [Act.put, List.setIfInBounds_toArray, List.set_cons_zero, List.set_cons_succ]
  refine wpAnyH_take (i := 15) (v := ?_) (by simp only [List.getElem?_toArray, List.getElem?_cons_succ, List.getElem?_cons_zero]; rfl) (by kernel_rfl) (by kernel_rfl) (by kernel_rfl) (fun _ _ _ h => (h : False).elim) (Or.inl ⟨by rfl, ?_⟩) hH0 ?_
  rotate_left
  · intro w hSw; (try dsimp only at hSw); go_simp; try with_reducible rfl
  try simp only [Act.put, List.setIfInBounds_toArray, List.set_cons_zero, List.set_cons_succ]
  refine wpAnyH_take (i := 16) (v := ?_) (by simp only [List.getElem?_toArray, List.getElem?_cons_succ, List.getElem?_cons_zero]; rfl) (by kernel_rfl) (by kernel_rfl) (by kernel_rfl) (fun _ _ _ h => (h : False).elim) (Or.inl ⟨by rfl, ?_⟩) hH0 ?_
  rotate_left
  · intro w hSw; (try dsimp only at hSw); go_simp; try with_reducible rfl
  try simp only [Act.put, List.setIfInBounds_toArray, List.set_cons_zero, List.set_cons_succ]
  refine wpAnyH_take (i := 17) (v := ?_) (by simp only [List.getElem?_toArray, List.getElem?_cons_succ, List.getElem?_cons_zero]; rfl) (by kernel_rfl) (by kernel_rfl) (by kernel_rfl) (fun _ _ _ h => (h : False).elim) (Or.inl ⟨by rfl, ?_⟩) hH0 ?_
  rotate_left
  · intro w hSw; (try dsimp only at hSw); go_simp; try with_reducible rfl
  try simp only [Act.put, List.setIfInBounds_toArray, List.set_cons_zero, List.set_cons_succ]
  refine wpAnyH_take (i := 18) (v := ?_) (by simp only [List.getElem?_toArray, List.getElem?_cons_succ, List.getElem?_cons_zero]; rfl) (by kernel_rfl) (by kernel_rfl) (by kernel_rfl) (fun _ _ _ h => (h : False).elim) (Or.inl ⟨by rfl, ?_⟩) hH0 ?_
  rotate_left
  · intro w hSw; (try dsimp only at hSw); go_simp; try with_reducible rfl
  try simp only [Act.put, List.setIfInBounds_toArray, List.set_cons_zero, List.set_cons_succ]
  refine wpAnyH_take (i := 19) (v := ?_) (by simp only [List.getElem?_toArray, List.getElem?_cons_succ, List.getElem?_cons_zero]; rfl) (by kernel_rfl) (by kernel_rfl) (by kernel_rfl) (fun _ _ _ h => (h : False).elim) (Or.inl ⟨by rfl, ?_⟩) hH0 ?_
  rotate_left
  · intro w hSw; (try dsimp only at hSw); go_simp; try with_reducible rfl
  try simp only [Act.put, List.setIfInBounds_toArray, List.set_cons_zero, List.set_cons_succ]
  refine wpAnyH_take (i := 20) (v := ?_) (by simp only [List.getElem?_toArray, List.getElem?_cons_succ, List.getElem?_cons_zero]; rfl) (by kernel_rfl) (by kernel_rfl) (by kernel_rfl) (fun _ _ _ h => (h : False).elim) (Or.inl ⟨by rfl, ?_⟩) hH0 ?_
  rotate_left
  · intro w hSw; (try dsimp only at hSw); go_simp; try with_reducible rfl
  try simp only [Act.put, List.setIfInBounds_toArray, List.set_cons_zero, List.set_cons_succ]
  refine wpAnyH_take (i := 21) (v := ?_) (by simp only [List.getElem?_toArray, List.getElem?_cons_succ, List.getElem?_cons_zero]; rfl) (by kernel_rfl) (by kernel_rfl) (by kernel_rfl) (fun _ _ _ h => (h : False).elim) (Or.inl ⟨by rfl, ?_⟩) hH0 ?_
  rotate_left
  · intro w hSw; (try dsimp only at hSw); go_simp; try with_reducible rfl
  try simp only [Act.put, List.setIfInBounds_toArray, List.set_cons_zero, List.set_cons_succ]
  refine wpAnyH_take (i := 22) (v := ?_) (by simp only [List.getElem?_toArray, List.getElem?_cons_succ, List.getElem?_cons_zero]; rfl) (by kernel_rfl) (by kernel_rfl) (by kernel_rfl) (fun _ _ _ h => (h : False).elim) (Or.inl ⟨by rfl, ?_⟩) hH0 ?_
  rotate_left
  · intro w hSw; (try dsimp only at hSw); go_simp; try with_reducible rfl
  try simp only [Act.put, List.setIfInBounds_toArray, List.set_cons_zero, List.set_cons_succ]
  refine wpAnyH_ready (rs := [23]) (by kernel_rfl) (by simp) ?_
  refine AllReadyH.cons rfl (fun K hK => ?_) AllReadyH.nil
  try simp only [Act.put, List.setIfInBounds_toArray, List.set_cons_zero, List.set_cons_succ]
  go_simp
  refine hK.out _ _ ?_ (fun hH1 => ?_)
  · trivial
  clear hK K hH0
  try simp only [Act.put, List.setIfInBounds_toArray, List.set_cons_zero, List.set_cons_succ]
  have hsz := HB.out.size
  have hml := HM.out.lt
  have HSZ := Lib.hid hsz
  have HNE := Lib.hid (show w.heap.size ≠ r1.heap.size by omega)
  clear hsz hml
  have HB := Lib.hid (bel_al' HB.out (.cells #[.int .i64 0, .int .i64 0, .int .i64 0, .int .i64 0] 23))
  have HM := Lib.hid (HM.out.alloc (.cells #[.int .i64 0, .int .i64 0, .int .i64 0, .int .i64 0] 23))
  have KM := Lib.hid (Blk.new r1 #[.int .i64 0, .int .i64 0, .int .i64 0, .int .i64 0] 23)
  generalize r1.alloc (.cells #[.int .i64 0, .int .i64 0, .int .i64 0, .int .i64 0] 23) = r2 at HB HM KM ⊢
  refine wpAnyH_ready (rs := [24]) (by kernel_rfl) (by simp) ?_
  refine AllReadyH.cons rfl (fun K hK => ?_) AllReadyH.nil
  try simp only [Act.put, List.setIfInBounds_toArray, List.set_cons_zero, List.set_cons_succ]
  have m0 : r2.cell? ⟨r1.heap.size, 0, none⟩ = some (.int .i64 0) := KM.out.cell rfl
  have e0 := KM.out.frozen 0
  have m1 : r2.cell? ⟨r1.heap.size, 1, none⟩ = some (.int .i64 0) := KM.out.cell rfl
  have e1 := KM.out.frozen 1
  have m2 : r2.cell? ⟨r1.heap.size, 2, none⟩ = some (.int .i64 0) := KM.out.cell rfl
  have e2 := KM.out.frozen 2
  have m3 : r2.cell? ⟨r1.heap.size, 3, none⟩ = some (.int .i64 0) := KM.out.cell rfl
  have e3 := KM.out.frozen 3
  have lm := KM.out.lt
  go_simp
  refine hK.out _ _ ?_ (fun hH2 => ?_)
  · trivial
  clear hK K hH1
  try simp only [Act.put, List.setIfInBounds_toArray, List.set_cons_zero, List.set_cons_succ]
  refine wpAnyH_done (by kernel_rfl) ?_ _
  refine NoPanic.normal ?_
  clear hH2 m0 m1 m2 m3 e0 e1 e2 e3 lm x1 y1 x2 y2 x3 y3 x4 y4 x5 y5 x6 y6 x10 y10 x11 y11 x12 y12 x13 y13
  have HB := Lib.hid (bel_set' (k := 3) (v := .int .i64 (c3.toNat : Int)) (bel_set' (k := 2) (v := .int .i64 (c2.toNat : Int)) (bel_set' (k := 1) (v := .int .i64 ((c4.toNat : Int) + 256 * (c5.toNat : Int) + 65536 * (c6.toNat : Int))) (bel_set' (k := 0) (v := .int .i64 (c1.toNat : Int)) HB.out HSZ.out) HSZ.out) HSZ.out) HSZ.out)
  have HM := Lib.hid ((((HM.out.other HNE.out 0 (.int .i64 (c1.toNat : Int))).other HNE.out 1 (.int .i64 ((c4.toNat : Int) + 256 * (c5.toNat : Int) + 65536 * (c6.toNat : Int)))).other HNE.out 2 (.int .i64 (c2.toNat : Int))).other HNE.out 3 (.int .i64 (c3.toNat : Int)))
  have KM := Lib.hid ((((KM.out.set 0 (.int .i64 (c1.toNat : Int))).set 1 (.int .i64 ((c4.toNat : Int) + 256 * (c5.toNat : Int) + 65536 * (c6.toNat : Int)))).set 2 (.int .i64 (c2.toNat : Int))).set 3 (.int .i64 (c3.toNat : Int)))
  generalize ((((r2.setCell ⟨r1.heap.size, 0, none⟩ (.int .i64 (c1.toNat : Int))).setCell ⟨r1.heap.size, 1, none⟩ (.int .i64 ((c4.toNat : Int) + 256 * (c5.toNat : Int) + 65536 * (c6.toNat : Int)))).setCell ⟨r1.heap.size, 2, none⟩ (.int .i64 (c2.toNat : Int))).setCell ⟨r1.heap.size, 3, none⟩ (.int .i64 (c3.toNat : Int))) = r3 at HB HM KM ⊢
  simp only [List.setIfInBounds_toArray, List.set_cons_zero, List.set_cons_succ] at KM
  have m0 : r3.cell? ⟨r1.heap.size, 0, none⟩ = some (.int .i64 (c1.toNat : Int)) := KM.out.cell rfl
  have m1 : r3.cell? ⟨r1.heap.size, 1, none⟩ = some (.int .i64 ((c4.toNat : Int) + 256 * (c5.toNat : Int) + 65536 * (c6.toNat : Int))) := KM.out.cell rfl
  have m2 : r3.cell? ⟨r1.heap.size, 2, none⟩ = some (.int .i64 (c2.toNat : Int)) := KM.out.cell rfl
  have m3 : r3.cell? ⟨r1.heap.size, 3, none⟩ = some (.int .i64 (c3.toNat : Int)) := KM.out.cell rfl
  have lm := KM.out.lt
  go_wp2_with fail
  clear m0 m1 m2 m3 lm
  ((with_reducible refine (HE.out r3).mono ?_))
  rintro e r4 ⟨rfl, hb⟩
  have HB := Lib.hid (bstep HB.out hb)
  have HM := Lib.hid (HM.out.below' hb)
  have KM := Lib.hid (KM.out.below' hb)
  clear hb
  have m0 : r4.cell? ⟨r1.heap.size, 0, none⟩ = some (.int .i64 (c1.toNat : Int)) := KM.out.cell rfl
  have n0 : r4.cell? ⟨w.heap.size, 0, none⟩ = some (.int .i64 0) := HM.out.cell rfl
  have e0 := HM.out.frozen 0
  have m1 : r4.cell? ⟨r1.heap.size, 1, none⟩ = some (.int .i64 ((c4.toNat : Int) + 256 * (c5.toNat : Int) + 65536 * (c6.toNat : Int))) := KM.out.cell rfl
  have n1 : r4.cell? ⟨w.heap.size, 1, none⟩ = some (.int .i64 0) := HM.out.cell rfl
  have e1 := HM.out.frozen 1
  have m2 : r4.cell? ⟨r1.heap.size, 2, none⟩ = some (.int .i64 (c2.toNat : Int)) := KM.out.cell rfl
  have n2 : r4.cell? ⟨w.heap.size, 2, none⟩ = some (.int .i64 0) := HM.out.cell rfl
  have e2 := HM.out.frozen 2
  have m3 : r4.cell? ⟨r1.heap.size, 3, none⟩ = some (.int .i64 (c3.toNat : Int)) := KM.out.cell rfl
  have n3 : r4.cell? ⟨w.heap.size, 3, none⟩ = some (.int .i64 0) := HM.out.cell rfl
  have e3 := HM.out.frozen 3
  have lm := KM.out.lt
  have ln := HM.out.lt
  go_wp2
  refine bodyPost_ret (v := .tuple #[.agg #[.int .i64 (c1.toNat : Int), .int .i64 ((c4.toNat : Int) + 256 * (c5.toNat : Int) + 65536 * (c6.toNat : Int)), .int .i64 (c2.toNat : Int), .int .i64 (c3.toNat : Int)], .int .i64 0]) (by simp [results, Tryd.results14, go_sem, n0, n1, n2, n3, e0, e1, e2, e3, ln]) rfl ⟨rfl, ?_⟩
  repeat (first | exact HB.out | refine bel_al' ?_ _ | refine bel_set' ?_ (Nat.le_refl _) | refine bel_dr' ?_)
set_option maxRecDepth 100000 in
set_option maxHeartbeats 2000000 in
theorem rDec_ne (c0 c1 c2 c3 c4 c5 c6 c7 : UInt8) (T : ByteArray) (hne : (T.toList == [c0, c1, c2, c3, c4, c5, c6, c7]) = false) (hE : ∀ W, Calls Tryd.prog 11 #[.agg #[.int .i64 (c1.toNat : Int), .int .i64 ((c4.toNat : Int) + 256 * (c5.toNat : Int) + 65536 * (c6.toNat : Int)), .int .i64 (c2.toNat : Int), .int .i64 (c3.toNat : Int)]] W fun e w' => e = .returned (.tuple #[.string T, .int .i64 0]) ∧ Below W.heap.size W w') (w : World) :
    Calls Tryd.prog 14 #[.string (b8 c0 c1 c2 c3 c4 c5 c6 c7)] w fun e w' => e = .returned (.tuple #[.agg #[.int .i64 0, .int .i64 0, .int .i64 0, .int .i64 0], .int .i64 60]) ∧ Below w.heap.size w w' := by
  have HE := Lib.hid hE
  have x1 := wX1 c1
  have y1 := wY1 c1
  have x2 := wX1 c2
  have y2 := wY1 c2
  have x3 := wX1 c3
  have y3 := wY1 c3
  have x4 := wX1 c4
  have y4 := wY1 c4
  have x5 := wX1 c5
  have y5 := wY1 c5
  have x6 := wX1 c6
  have y6 := wY1 c6
  have x10 := wX2 c5
  have y10 := wY2 c5
  have x11 := wX3 c4 c5
  have y11 := wY3 c4 c5
  have x12 := wX4 c6
  have y12 := wY4 c6
  have x13 := wX5 c4 c5 c6
  have y13 := wY5 c4 c5 c6
  have i1 : (b8 c0 c1 c2 c3 c4 c5 c6 c7)[1]'(by show 1 < 8; omega) = c1 := rfl
  have i2 : (b8 c0 c1 c2 c3 c4 c5 c6 c7)[2]'(by show 2 < 8; omega) = c2 := rfl
  have i3 : (b8 c0 c1 c2 c3 c4 c5 c6 c7)[3]'(by show 3 < 8; omega) = c3 := rfl
  have i4 : (b8 c0 c1 c2 c3 c4 c5 c6 c7)[4]'(by show 4 < 8; omega) = c4 := rfl
  have i5 : (b8 c0 c1 c2 c3 c4 c5 c6 c7)[5]'(by show 5 < 8; omega) = c5 := rfl
  have i6 : (b8 c0 c1 c2 c3 c4 c5 c6 c7)[6]'(by show 6 < 8; omega) = c6 := rfl
  obtain ⟨b0, hB0, hs0⟩ := blk1 w #[.int .i64 0, .int .i64 0, .int .i64 0, .int .i64 0] 23
  have HM := Lib.hid b0
  have HB := Lib.hid hB0
  clear hE hB0 b0 hs0
  go_enter Tryd.func14, Tryd.ntmps14
  go_wp2
  generalize w.alloc (.cells #[.int .i64 0, .int .i64 0, .int .i64 0, .int .i64 0] 23) = r0 at HB HM ⊢
  refine wp_region_noPanic ?_
  refine wp_region_held_drew (S := fun _ => True) (by kernel_rfl) ?_ (fun hH0 => ?_)
  · trivial
  have HB := Lib.hid (bel_dr' HB.out)
  have HM := Lib.hid HM.out.drew
  generalize r0.drew = r1 at HB HM ⊢
  refine wpAnyH_take (i := 0) (v := ?_) (by simp only [List.getElem?_toArray, List.getElem?_cons_succ, List.getElem?_cons_zero]; rfl) (by kernel_rfl) (by kernel_rfl) (by kernel_rfl) (fun _ _ _ h => (h : False).elim) (Or.inl ⟨by rfl, ?_⟩) hH0 ?_
  rotate_left
  · intro w hSw; (try dsimp only at hSw); go_simp; try with_reducible rfl
  try simp only [Act.put, List.setIfInBounds_toArray, List.set_cons_zero, List.set_cons_succ]
  refine wpAnyH_take (i := 1) (v := ?_) (by simp only [List.getElem?_toArray, List.getElem?_cons_succ, List.getElem?_cons_zero]; rfl) (by kernel_rfl) (by kernel_rfl) (by kernel_rfl) (fun _ _ _ h => (h : False).elim) (Or.inl ⟨by rfl, ?_⟩) hH0 ?_
  rotate_left
  · intro w hSw; (try dsimp only at hSw); go_simp; try with_reducible rfl
  try simp only [Act.put, List.setIfInBounds_toArray, List.set_cons_zero, List.set_cons_succ]
  refine wpAnyH_take (i := 2) (v := ?_) (by simp only [List.getElem?_toArray, List.getElem?_cons_succ, List.getElem?_cons_zero]; rfl) (by kernel_rfl) (by kernel_rfl) (by kernel_rfl) (fun _ _ _ h => (h : False).elim) (Or.inl ⟨by rfl, ?_⟩) hH0 ?_
  rotate_left
  · intro w hSw; (try dsimp only at hSw); go_simp; try with_reducible rfl
  try simp only [Act.put, List.setIfInBounds_toArray, List.set_cons_zero, List.set_cons_succ]
  refine wpAnyH_take (i := 3) (v := ?_) (by simp only [List.getElem?_toArray, List.getElem?_cons_succ, List.getElem?_cons_zero]; rfl) (by kernel_rfl) (by kernel_rfl) (by kernel_rfl) (fun _ _ _ h => (h : False).elim) (Or.inl ⟨by rfl, ?_⟩) hH0 ?_
  rotate_left
  · intro w hSw; (try dsimp only at hSw); go_simp; try with_reducible rfl
  try simp only [Act.put, List.setIfInBounds_toArray, List.set_cons_zero, List.set_cons_succ]
  refine wpAnyH_take (i := 4) (v := ?_) (by simp only [List.getElem?_toArray, List.getElem?_cons_succ, List.getElem?_cons_zero]; rfl) (by kernel_rfl) (by kernel_rfl) (by kernel_rfl) (fun _ _ _ h => (h : False).elim) (Or.inl ⟨by rfl, ?_⟩) hH0 ?_
  rotate_left
  · intro w hSw; (try dsimp only at hSw); go_simp; try with_reducible rfl
  try simp only [Act.put, List.setIfInBounds_toArray, List.set_cons_zero, List.set_cons_succ]
  refine wpAnyH_take (i := 5) (v := ?_) (by simp only [List.getElem?_toArray, List.getElem?_cons_succ, List.getElem?_cons_zero]; rfl) (by kernel_rfl) (by kernel_rfl) (by kernel_rfl) (fun _ _ _ h => (h : False).elim) (Or.inl ⟨by rfl, ?_⟩) hH0 ?_
  rotate_left
  · intro w hSw; (try dsimp only at hSw); go_simp; try with_reducible rfl
  try simp only [Act.put, List.setIfInBounds_toArray, List.set_cons_zero, List.set_cons_succ]
  refine wpAnyH_take (i := 6) (v := ?_) (by simp only [List.getElem?_toArray, List.getElem?_cons_succ, List.getElem?_cons_zero]; rfl) (by kernel_rfl) (by kernel_rfl) (by kernel_rfl) (fun _ _ _ h => (h : False).elim) (Or.inl ⟨by rfl, ?_⟩) hH0 ?_
  rotate_left
  · intro w hSw; (try dsimp only at hSw); go_simp; try with_reducible rfl
  try simp only [Act.put, List.setIfInBounds_toArray, List.set_cons_zero, List.set_cons_succ]
  refine wpAnyH_take (i := 7) (v := ?_) (by simp only [List.getElem?_toArray, List.getElem?_cons_succ, List.getElem?_cons_zero]; rfl) (by kernel_rfl) (by kernel_rfl) (by kernel_rfl) (fun _ _ _ h => (h : False).elim) (Or.inl ⟨by rfl, ?_⟩) hH0 ?_
  rotate_left
  · intro w hSw; (try dsimp only at hSw); go_simp; try with_reducible rfl
  try simp only [Act.put, List.setIfInBounds_toArray, List.set_cons_zero, List.set_cons_succ]
  refine wpAnyH_take (i := 8) (v := ?_) (by simp only [List.getElem?_toArray, List.getElem?_cons_succ, List.getElem?_cons_zero]; rfl) (by kernel_rfl) (by kernel_rfl) (by kernel_rfl) (fun _ _ _ h => (h : False).elim) (Or.inl ⟨by rfl, ?_⟩) hH0 ?_
  rotate_left
  · intro w hSw; (try dsimp only at hSw); go_simp; try with_reducible rfl
  try simp only [Act.put, List.setIfInBounds_toArray, List.set_cons_zero, List.set_cons_succ]
  refine wpAnyH_take (i := 9) (v := ?_) (by simp only [List.getElem?_toArray, List.getElem?_cons_succ, List.getElem?_cons_zero]; rfl) (by kernel_rfl) (by kernel_rfl) (by kernel_rfl) (fun _ _ _ h => (h : False).elim) (Or.inl ⟨by rfl, ?_⟩) hH0 ?_
  rotate_left
  · intro w hSw; (try dsimp only at hSw); go_simp; try with_reducible rfl
  try simp only [Act.put, List.setIfInBounds_toArray, List.set_cons_zero, List.set_cons_succ]
  refine wpAnyH_take (i := 10) (v := ?_) (by simp only [List.getElem?_toArray, List.getElem?_cons_succ, List.getElem?_cons_zero]; rfl) (by kernel_rfl) (by kernel_rfl) (by kernel_rfl) (fun _ _ _ h => (h : False).elim) (Or.inl ⟨by rfl, ?_⟩) hH0 ?_
  rotate_left
  · intro w hSw; (try dsimp only at hSw); go_simp; try with_reducible rfl
  try simp only [Act.put, List.setIfInBounds_toArray, List.set_cons_zero, List.set_cons_succ]
  refine wpAnyH_take (i := 11) (v := ?_) (by simp only [List.getElem?_toArray, List.getElem?_cons_succ, List.getElem?_cons_zero]; rfl) (by kernel_rfl) (by kernel_rfl) (by kernel_rfl) (fun _ _ _ h => (h : False).elim) (Or.inl ⟨by rfl, ?_⟩) hH0 ?_
  rotate_left
  · intro w hSw; (try dsimp only at hSw); go_simp; try with_reducible rfl
  try simp only [Act.put, List.setIfInBounds_toArray, List.set_cons_zero, List.set_cons_succ]
  refine wpAnyH_take (i := 12) (v := ?_) (by simp only [List.getElem?_toArray, List.getElem?_cons_succ, List.getElem?_cons_zero]; rfl) (by kernel_rfl) (by kernel_rfl) (by kernel_rfl) (fun _ _ _ h => (h : False).elim) (Or.inl ⟨by rfl, ?_⟩) hH0 ?_
  rotate_left
  · intro w hSw; (try dsimp only at hSw); go_simp; try with_reducible rfl
  try simp only [Act.put, List.setIfInBounds_toArray, List.set_cons_zero, List.set_cons_succ]
  refine wpAnyH_take (i := 13) (v := ?_) (by simp only [List.getElem?_toArray, List.getElem?_cons_succ, List.getElem?_cons_zero]; rfl) (by kernel_rfl) (by kernel_rfl) (by kernel_rfl) (fun _ _ _ h => (h : False).elim) (Or.inl ⟨by rfl, ?_⟩) hH0 ?_
  rotate_left
  · intro w hSw; (try dsimp only at hSw); go_simp; try with_reducible rfl
  try simp only [Act.put, List.setIfInBounds_toArray, List.set_cons_zero, List.set_cons_succ]
  refine wpAnyH_take (i := 14) (v := ?_) (by simp only [List.getElem?_toArray, List.getElem?_cons_succ, List.getElem?_cons_zero]; rfl) (by kernel_rfl) (by kernel_rfl) (by kernel_rfl) (fun _ _ _ h => (h : False).elim) (Or.inl ⟨by rfl, ?_⟩) hH0 ?_
  rotate_left
  · intro w hSw; (try dsimp only at hSw); go_simp; try with_reducible rfl
  try simp only [Act.put, List.setIfInBounds_toArray, List.set_cons_zero, List.set_cons_succ]
  refine wpAnyH_take (i := 15) (v := ?_) (by simp only [List.getElem?_toArray, List.getElem?_cons_succ, List.getElem?_cons_zero]; rfl) (by kernel_rfl) (by kernel_rfl) (by kernel_rfl) (fun _ _ _ h => (h : False).elim) (Or.inl ⟨by rfl, ?_⟩) hH0 ?_
  rotate_left
  · intro w hSw; (try dsimp only at hSw); go_simp; try with_reducible rfl
  try simp only [Act.put, List.setIfInBounds_toArray, List.set_cons_zero, List.set_cons_succ]
  refine wpAnyH_take (i := 16) (v := ?_) (by simp only [List.getElem?_toArray, List.getElem?_cons_succ, List.getElem?_cons_zero]; rfl) (by kernel_rfl) (by kernel_rfl) (by kernel_rfl) (fun _ _ _ h => (h : False).elim) (Or.inl ⟨by rfl, ?_⟩) hH0 ?_
  rotate_left
  · intro w hSw; (try dsimp only at hSw); go_simp; try with_reducible rfl
  try simp only [Act.put, List.setIfInBounds_toArray, List.set_cons_zero, List.set_cons_succ]
  refine wpAnyH_take (i := 17) (v := ?_) (by simp only [List.getElem?_toArray, List.getElem?_cons_succ, List.getElem?_cons_zero]; rfl) (by kernel_rfl) (by kernel_rfl) (by kernel_rfl) (fun _ _ _ h => (h : False).elim) (Or.inl ⟨by rfl, ?_⟩) hH0 ?_
  rotate_left
  · intro w hSw; (try dsimp only at hSw); go_simp; try with_reducible rfl
  try simp only [Act.put, List.setIfInBounds_toArray, List.set_cons_zero, List.set_cons_succ]
  refine wpAnyH_take (i := 18) (v := ?_) (by simp only [List.getElem?_toArray, List.getElem?_cons_succ, List.getElem?_cons_zero]; rfl) (by kernel_rfl) (by kernel_rfl) (by kernel_rfl) (fun _ _ _ h => (h : False).elim) (Or.inl ⟨by rfl, ?_⟩) hH0 ?_
  rotate_left
  · intro w hSw; (try dsimp only at hSw); go_simp; try with_reducible rfl
  try simp only [Act.put, List.setIfInBounds_toArray, List.set_cons_zero, List.set_cons_succ]
  refine wpAnyH_take (i := 19) (v := ?_) (by simp only [List.getElem?_toArray, List.getElem?_cons_succ, List.getElem?_cons_zero]; rfl) (by kernel_rfl) (by kernel_rfl) (by kernel_rfl) (fun _ _ _ h => (h : False).elim) (Or.inl ⟨by rfl, ?_⟩) hH0 ?_
  rotate_left
  · intro w hSw; (try dsimp only at hSw); go_simp; try with_reducible rfl
  try simp only [Act.put, List.setIfInBounds_toArray, List.set_cons_zero, List.set_cons_succ]
  refine wpAnyH_take (i := 20) (v := ?_) (by simp only [List.getElem?_toArray, List.getElem?_cons_succ, List.getElem?_cons_zero]; rfl) (by kernel_rfl) (by kernel_rfl) (by kernel_rfl) (fun _ _ _ h => (h : False).elim) (Or.inl ⟨by rfl, ?_⟩) hH0 ?_
  rotate_left
  · intro w hSw; (try dsimp only at hSw); go_simp; try with_reducible rfl
  try simp only [Act.put, List.setIfInBounds_toArray, List.set_cons_zero, List.set_cons_succ]
  refine wpAnyH_take (i := 21) (v := ?_) (by simp only [List.getElem?_toArray, List.getElem?_cons_succ, List.getElem?_cons_zero]; rfl) (by kernel_rfl) (by kernel_rfl) (by kernel_rfl) (fun _ _ _ h => (h : False).elim) (Or.inl ⟨by rfl, ?_⟩) hH0 ?_
  rotate_left
  · intro w hSw; (try dsimp only at hSw); go_simp; try with_reducible rfl
  try simp only [Act.put, List.setIfInBounds_toArray, List.set_cons_zero, List.set_cons_succ]
  refine wpAnyH_take (i := 22) (v := ?_) (by simp only [List.getElem?_toArray, List.getElem?_cons_succ, List.getElem?_cons_zero]; rfl) (by kernel_rfl) (by kernel_rfl) (by kernel_rfl) (fun _ _ _ h => (h : False).elim) (Or.inl ⟨by rfl, ?_⟩) hH0 ?_
  rotate_left
  · intro w hSw; (try dsimp only at hSw); go_simp; try with_reducible rfl
  try simp only [Act.put, List.setIfInBounds_toArray, List.set_cons_zero, List.set_cons_succ]
  refine wpAnyH_ready (rs := [23]) (by kernel_rfl) (by simp) ?_
  refine AllReadyH.cons rfl (fun K hK => ?_) AllReadyH.nil
  try simp only [Act.put, List.setIfInBounds_toArray, List.set_cons_zero, List.set_cons_succ]
  go_simp
  refine hK.out _ _ ?_ (fun hH1 => ?_)
  · trivial
  clear hK K hH0
  try simp only [Act.put, List.setIfInBounds_toArray, List.set_cons_zero, List.set_cons_succ]
  have hsz := HB.out.size
  have hml := HM.out.lt
  have HSZ := Lib.hid hsz
  have HNE := Lib.hid (show w.heap.size ≠ r1.heap.size by omega)
  clear hsz hml
  have HB := Lib.hid (bel_al' HB.out (.cells #[.int .i64 0, .int .i64 0, .int .i64 0, .int .i64 0] 23))
  have HM := Lib.hid (HM.out.alloc (.cells #[.int .i64 0, .int .i64 0, .int .i64 0, .int .i64 0] 23))
  have KM := Lib.hid (Blk.new r1 #[.int .i64 0, .int .i64 0, .int .i64 0, .int .i64 0] 23)
  generalize r1.alloc (.cells #[.int .i64 0, .int .i64 0, .int .i64 0, .int .i64 0] 23) = r2 at HB HM KM ⊢
  refine wpAnyH_ready (rs := [24]) (by kernel_rfl) (by simp) ?_
  refine AllReadyH.cons rfl (fun K hK => ?_) AllReadyH.nil
  try simp only [Act.put, List.setIfInBounds_toArray, List.set_cons_zero, List.set_cons_succ]
  have m0 : r2.cell? ⟨r1.heap.size, 0, none⟩ = some (.int .i64 0) := KM.out.cell rfl
  have e0 := KM.out.frozen 0
  have m1 : r2.cell? ⟨r1.heap.size, 1, none⟩ = some (.int .i64 0) := KM.out.cell rfl
  have e1 := KM.out.frozen 1
  have m2 : r2.cell? ⟨r1.heap.size, 2, none⟩ = some (.int .i64 0) := KM.out.cell rfl
  have e2 := KM.out.frozen 2
  have m3 : r2.cell? ⟨r1.heap.size, 3, none⟩ = some (.int .i64 0) := KM.out.cell rfl
  have e3 := KM.out.frozen 3
  have lm := KM.out.lt
  go_simp
  refine hK.out _ _ ?_ (fun hH2 => ?_)
  · trivial
  clear hK K hH1
  try simp only [Act.put, List.setIfInBounds_toArray, List.set_cons_zero, List.set_cons_succ]
  refine wpAnyH_done (by kernel_rfl) ?_ _
  refine NoPanic.normal ?_
  clear hH2 m0 m1 m2 m3 e0 e1 e2 e3 lm x1 y1 x2 y2 x3 y3 x4 y4 x5 y5 x6 y6 x10 y10 x11 y11 x12 y12 x13 y13
  have HB := Lib.hid (bel_set' (k := 3) (v := .int .i64 (c3.toNat : Int)) (bel_set' (k := 2) (v := .int .i64 (c2.toNat : Int)) (bel_set' (k := 1) (v := .int .i64 ((c4.toNat : Int) + 256 * (c5.toNat : Int) + 65536 * (c6.toNat : Int))) (bel_set' (k := 0) (v := .int .i64 (c1.toNat : Int)) HB.out HSZ.out) HSZ.out) HSZ.out) HSZ.out)
  have HM := Lib.hid ((((HM.out.other HNE.out 0 (.int .i64 (c1.toNat : Int))).other HNE.out 1 (.int .i64 ((c4.toNat : Int) + 256 * (c5.toNat : Int) + 65536 * (c6.toNat : Int)))).other HNE.out 2 (.int .i64 (c2.toNat : Int))).other HNE.out 3 (.int .i64 (c3.toNat : Int)))
  have KM := Lib.hid ((((KM.out.set 0 (.int .i64 (c1.toNat : Int))).set 1 (.int .i64 ((c4.toNat : Int) + 256 * (c5.toNat : Int) + 65536 * (c6.toNat : Int)))).set 2 (.int .i64 (c2.toNat : Int))).set 3 (.int .i64 (c3.toNat : Int)))
  generalize ((((r2.setCell ⟨r1.heap.size, 0, none⟩ (.int .i64 (c1.toNat : Int))).setCell ⟨r1.heap.size, 1, none⟩ (.int .i64 ((c4.toNat : Int) + 256 * (c5.toNat : Int) + 65536 * (c6.toNat : Int)))).setCell ⟨r1.heap.size, 2, none⟩ (.int .i64 (c2.toNat : Int))).setCell ⟨r1.heap.size, 3, none⟩ (.int .i64 (c3.toNat : Int))) = r3 at HB HM KM ⊢
  simp only [List.setIfInBounds_toArray, List.set_cons_zero, List.set_cons_succ] at KM
  have m0 : r3.cell? ⟨r1.heap.size, 0, none⟩ = some (.int .i64 (c1.toNat : Int)) := KM.out.cell rfl
  have m1 : r3.cell? ⟨r1.heap.size, 1, none⟩ = some (.int .i64 ((c4.toNat : Int) + 256 * (c5.toNat : Int) + 65536 * (c6.toNat : Int))) := KM.out.cell rfl
  have m2 : r3.cell? ⟨r1.heap.size, 2, none⟩ = some (.int .i64 (c2.toNat : Int)) := KM.out.cell rfl
  have m3 : r3.cell? ⟨r1.heap.size, 3, none⟩ = some (.int .i64 (c3.toNat : Int)) := KM.out.cell rfl
  have lm := KM.out.lt
  go_wp2_with fail
  clear m0 m1 m2 m3 lm
  ((with_reducible refine (HE.out r3).mono ?_))
  rintro e r4 ⟨rfl, hb⟩
  have HB := Lib.hid (bstep HB.out hb)
  have HM := Lib.hid (HM.out.below' hb)
  have KM := Lib.hid (KM.out.below' hb)
  clear hb
  have m0 : r4.cell? ⟨r1.heap.size, 0, none⟩ = some (.int .i64 (c1.toNat : Int)) := KM.out.cell rfl
  have n0 : r4.cell? ⟨w.heap.size, 0, none⟩ = some (.int .i64 0) := HM.out.cell rfl
  have e0 := HM.out.frozen 0
  have m1 : r4.cell? ⟨r1.heap.size, 1, none⟩ = some (.int .i64 ((c4.toNat : Int) + 256 * (c5.toNat : Int) + 65536 * (c6.toNat : Int))) := KM.out.cell rfl
  have n1 : r4.cell? ⟨w.heap.size, 1, none⟩ = some (.int .i64 0) := HM.out.cell rfl
  have e1 := HM.out.frozen 1
  have m2 : r4.cell? ⟨r1.heap.size, 2, none⟩ = some (.int .i64 (c2.toNat : Int)) := KM.out.cell rfl
  have n2 : r4.cell? ⟨w.heap.size, 2, none⟩ = some (.int .i64 0) := HM.out.cell rfl
  have e2 := HM.out.frozen 2
  have m3 : r4.cell? ⟨r1.heap.size, 3, none⟩ = some (.int .i64 (c3.toNat : Int)) := KM.out.cell rfl
  have n3 : r4.cell? ⟨w.heap.size, 3, none⟩ = some (.int .i64 0) := HM.out.cell rfl
  have e3 := HM.out.frozen 3
  have lm := KM.out.lt
  have ln := HM.out.lt
  go_wp2
  refine bodyPost_ret (v := .tuple #[.agg #[.int .i64 0, .int .i64 0, .int .i64 0, .int .i64 0], .int .i64 60]) (by simp [results, Tryd.results14, go_sem, n0, n1, n2, n3, e0, e1, e2, e3, ln]) rfl ⟨rfl, ?_⟩
  repeat (first | exact HB.out | refine bel_al' ?_ _ | refine bel_set' ?_ (Nat.le_refl _) | refine bel_dr' ?_)
end Go.Proofs.YtmikkbhillkpkaaDoor
