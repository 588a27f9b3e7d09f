/-
  selionlaw11.shown.
-/
import Derived.Test.YtanccoahpcfbnaaDoorBuB
import Derived.Test.YtanccoahpcfbnaaDoorBuD
namespace Go.Proofs.YtanccoahpcfbnaaDoor
open Go.RowKit Go.Lib Go.Shelf Ad
attribute [local go_sem] Oper.semAt_some
set_option linter.unusedSimpArgs false

def zS (i : Nat) : Int := if i = 1 then 1 else 0
theorem zS_0 : (holesZ (keptZ zS) (line0 0)).head? = some (0, 1) := by decide +kernel
theorem zS_1 : (holesZ (keptZ zS) (line0 1)).head? = some (2, 32) := by decide +kernel
theorem zS_right : rightT zS = true := by decide +kernel
theorem zS_cells (i : Nat) (h : i < 32) : (zeros32.setIfInBounds 1 (.int .i64 1))[i]? = some (.int .i64 (zS i)) := by
  have hs : zeros32.size = 32 := by simp [zeros32]
  rw [Array.getElem?_setIfInBounds, zeros32_get i h]
  unfold zS
  by_cases h5 : 1 = i
  · subst h5; simp [hs]
  · rw [if_neg h5, if_neg (by omega)]
theorem tab_S (W : World) (B : Nat) (t : TypeId) (h : Blk W B (zeros32.setIfInBounds 1 (.int .i64 1)) t) : Tab W B 0 zS := fun i hi => by
  rw [Nat.zero_add]; exact h.cell (zS_cells i hi)
theorem open_S (B : Nat) (W : World) (hT : Tab W B 0 zS) (aA aS aR : Addr) (hV : AV W aA aS aR) : Calls Tryd.prog 20 #[.slice (some ⟨B, 0, none⟩) 32 32, .int .i64 2, .int .i64 0] W fun e w' => e = .returned (.tuple #[.agg #[.int .i64 2, .int .i64 8192, .int .i64 8320], .bool true]) ∧ Below W.heap.size W w' := by
  have h := open_any _ 2 0 W _ (tab_nx (cap := 32) hT zS_right) (tab_in _) aA aS aR hV
  rw [zS_0] at h
  exact h
theorem next_S (B : Nat) (W : World) (hT : Tab W B 0 zS) (aA aS aR : Addr) (hV : AV W aA aS aR) : Calls Tryd.prog 24 #[.slice (some ⟨B, 0, none⟩) 32 32, .agg #[.int .i64 2, .int .i64 8192, .int .i64 8320]] W fun e w' => e = .returned (.tuple #[.agg #[.int .i64 2, .int .i64 8448, .int .i64 12288], .bool true]) ∧ Below W.heap.size W w' := by
  refine bnext_some (some ⟨B, 0, none⟩) 32 32 2 8192 8320 2 8448 12288 W _ (tab_nx (cap := 32) hT zS_right) (tab_in _) aA aS aR hV ?_
  have h1 : inBk 2 8192 8320 := by unfold inBk; omega
  rw [nextC, if_pos h1]
  show openC 2 ((holesZ (keptZ zS) (line0 (lineC 2 8320))).head?) = _
  rw [show lineC 2 8320 = 1 by decide, zS_1]
  rfl
theorem rndv (n m : Int) (h : (n + 8 - 1) / 8 * 8 = m) : rnd n = m := h
theorem take_S (W : World) (aA aS aR : Addr) (hV : AV W aA aS aR) : Calls Tryd.prog 10 #[.agg #[.int .i64 2, .int .i64 8192, .int .i64 8320], .int .i64 20] W fun e w' => e = .returned (.tuple #[.agg #[.int .i64 2, .int .i64 8216, .int .i64 8320], .int .i64 8192, .bool true]) ∧ Below W.heap.size W w' := by
  have hr : rightC 2 8192 8320 := .inr (by unfold inBk; omega)
  have h := take_yes 2 8192 8320 20 W aA aS aR hV ⟨hr, by omega, by rw [rndv 20 24 rfl, roomC, if_pos hr]; omega⟩
  rw [rndv 20 24 rfl] at h
  exact h
theorem take_S2 (W : World) (aA aS aR : Addr) (hV : AV W aA aS aR) : Calls Tryd.prog 10 #[.agg #[.int .i64 2, .int .i64 8192, .int .i64 8320], .int .i64 129] W fun e w' => e = .returned (.tuple #[.agg #[.int .i64 0, .int .i64 0, .int .i64 0], .int .i64 0, .bool false]) ∧ Below W.heap.size W w' := by
  have hr : rightC 2 8192 8320 := .inr (by unfold inBk; omega)
  exact take_no 2 8192 8320 129 W aA aS aR hV (fun h => by have := h.2.2; rw [rndv 129 136 rfl, roomC, if_pos hr] at this; omega)
theorem room_S (W : World) : Calls Tryd.prog 14 #[.agg #[.int .i64 2, .int .i64 8216, .int .i64 8320]] W fun e w' => e = .returned (.int .i64 104) ∧ Below W.heap.size W w' :=
  room_t 2 8216 8320 W (.inr (by unfold inBk; omega))
set_option maxRecDepth 100000 in
set_option maxHeartbeats 1000000 in
theorem shown11 (w : World) (aA aS aR : Addr) (hV : AV w aA aS aR) : Calls Tryd.prog 9 #[] w fun e w' => e = .returned (.bool true) ∧ Below w.heap.size w w' := by
  have hmk := mk32f
  have hfd : ∀ W, (Instr.field 23 (.agg #[.int .i64 (-1), .int .i64 0, .int .i64 0]) 0).run Tryd.prog W = .ok (.int .i64 (-1)) W := fun _ => by kernel_rfl
  have z1 := zeros32_get 1 (by omega)
  have HV := Lib.hid hV
  clear hV
  have HB := Lib.hid (Below.refl w.heap.size w)
  go_enter Tryd.func9, Tryd.ntmps9
  have HB := Lib.hid (bel_al HB.out (.cells (zeros32.setIfInBounds 1 (.int .i64 1)) 3))
  have KT := Lib.hid (Blk.new w (zeros32.setIfInBounds 1 (.int .i64 1)) 3)
  go_wp2_with fail
  generalize w.alloc (.cells (zeros32.setIfInBounds 1 (.int .i64 1)) 3) = v1 at HB KT ⊢
  clear hmk z1
  ((with_reducible refine (open_S w.heap.size v1 (tab_S _ _ _ KT.out) aA aS aR (HV.out.below HB.out)).mono ?_))
  rintro e u2 ⟨rfl, hb⟩
  have HB := Lib.hid (bstep HB.out hb)
  have KT := Lib.hid (KT.out.below' hb)
  clear hb
  have HB := Lib.hid (bel_al HB.out (.cells #[.int .i64 2, .int .i64 8192, .int .i64 8320] 23))
  have KT := Lib.hid (KT.out.alloc (.cells #[.int .i64 2, .int .i64 8192, .int .i64 8320] 23))
  have KC := Lib.hid (Blk.new u2 #[.int .i64 2, .int .i64 8192, .int .i64 8320] 23)
  go_wp2_with fail
  generalize u2.alloc (.cells #[.int .i64 2, .int .i64 8192, .int .i64 8320] 23) = v3 at HB KT KC ⊢
  ((with_reducible refine (next_S w.heap.size v3 (tab_S _ _ _ KT.out) aA aS aR (HV.out.below HB.out)).mono ?_))
  rintro e u4 ⟨rfl, hb⟩
  have HB := Lib.hid (bstep HB.out hb)
  have KT := Lib.hid (KT.out.below' hb)
  have KC := Lib.hid (KC.out.below' hb)
  clear hb
  have ltKC := KC.out.lt
  have cKC0 : u4.cell? ⟨u2.heap.size, 0, none⟩ = some (.int .i64 2) := KC.out.cell rfl
  have cKC1 : u4.cell? ⟨u2.heap.size, 1, none⟩ = some (.int .i64 8192) := KC.out.cell rfl
  have cKC2 : u4.cell? ⟨u2.heap.size, 2, none⟩ = some (.int .i64 8320) := KC.out.cell rfl
  have HB := Lib.hid (bel_al HB.out (.cells #[.int .i64 2, .int .i64 8448, .int .i64 12288] 23))
  have KT := Lib.hid (KT.out.alloc (.cells #[.int .i64 2, .int .i64 8448, .int .i64 12288] 23))
  have KC := Lib.hid (KC.out.alloc (.cells #[.int .i64 2, .int .i64 8448, .int .i64 12288] 23))
  have KD := Lib.hid (Blk.new u4 #[.int .i64 2, .int .i64 8448, .int .i64 12288] 23)
  go_wp2_with fail
  generalize u4.alloc (.cells #[.int .i64 2, .int .i64 8448, .int .i64 12288] 23) = v5 at HB KT KC KD ⊢
  clear ltKC cKC0 cKC1 cKC2
  ((with_reducible refine (take_S v5 aA aS aR (HV.out.below HB.out)).mono ?_))
  rintro e u6 ⟨rfl, hb⟩
  have HB := Lib.hid (bstep HB.out hb)
  have KT := Lib.hid (KT.out.below' hb)
  have KC := Lib.hid (KC.out.below' hb)
  have KD := Lib.hid (KD.out.below' hb)
  clear hb
  have ltKC := KC.out.lt
  have cKC0 : u6.cell? ⟨u2.heap.size, 0, none⟩ = some (.int .i64 2) := KC.out.cell rfl
  have cKC1 : u6.cell? ⟨u2.heap.size, 1, none⟩ = some (.int .i64 8192) := KC.out.cell rfl
  have cKC2 : u6.cell? ⟨u2.heap.size, 2, none⟩ = some (.int .i64 8320) := KC.out.cell rfl
  have HB := Lib.hid (bel_al HB.out (.cells #[.int .i64 2, .int .i64 8216, .int .i64 8320] 23))
  have KT := Lib.hid (KT.out.alloc (.cells #[.int .i64 2, .int .i64 8216, .int .i64 8320] 23))
  have KC := Lib.hid (KC.out.alloc (.cells #[.int .i64 2, .int .i64 8216, .int .i64 8320] 23))
  have KD := Lib.hid (KD.out.alloc (.cells #[.int .i64 2, .int .i64 8216, .int .i64 8320] 23))
  have KE := Lib.hid (Blk.new u6 #[.int .i64 2, .int .i64 8216, .int .i64 8320] 23)
  go_wp2_with fail
  generalize u6.alloc (.cells #[.int .i64 2, .int .i64 8216, .int .i64 8320] 23) = v7 at HB KT KC KD KE ⊢
  clear ltKC cKC0 cKC1 cKC2
  ((with_reducible refine (take_S2 v7 aA aS aR (HV.out.below HB.out)).mono ?_))
  rintro e u8 ⟨rfl, hb⟩
  have HB := Lib.hid (bstep HB.out hb)
  have KT := Lib.hid (KT.out.below' hb)
  have KC := Lib.hid (KC.out.below' hb)
  have KD := Lib.hid (KD.out.below' hb)
  have KE := Lib.hid (KE.out.below' hb)
  clear hb
  have ltKC := KC.out.lt
  have cKC0 : u8.cell? ⟨u2.heap.size, 0, none⟩ = some (.int .i64 2) := KC.out.cell rfl
  have cKC1 : u8.cell? ⟨u2.heap.size, 1, none⟩ = some (.int .i64 8192) := KC.out.cell rfl
  have cKC2 : u8.cell? ⟨u2.heap.size, 2, none⟩ = some (.int .i64 8320) := KC.out.cell rfl
  have ltKD := KD.out.lt
  have cKD0 : u8.cell? ⟨u4.heap.size, 0, none⟩ = some (.int .i64 2) := KD.out.cell rfl
  have cKD1 : u8.cell? ⟨u4.heap.size, 1, none⟩ = some (.int .i64 8448) := KD.out.cell rfl
  have cKD2 : u8.cell? ⟨u4.heap.size, 2, none⟩ = some (.int .i64 12288) := KD.out.cell rfl
  have ltKE := KE.out.lt
  have cKE0 : u8.cell? ⟨u6.heap.size, 0, none⟩ = some (.int .i64 2) := KE.out.cell rfl
  have cKE1 : u8.cell? ⟨u6.heap.size, 1, none⟩ = some (.int .i64 8216) := KE.out.cell rfl
  have cKE2 : u8.cell? ⟨u6.heap.size, 2, none⟩ = some (.int .i64 8320) := KE.out.cell rfl
  have HB := Lib.hid (bel_al HB.out (.cells #[.int .i64 0, .int .i64 0, .int .i64 0] 23))
  have KT := Lib.hid (KT.out.alloc (.cells #[.int .i64 0, .int .i64 0, .int .i64 0] 23))
  have KC := Lib.hid (KC.out.alloc (.cells #[.int .i64 0, .int .i64 0, .int .i64 0] 23))
  have KD := Lib.hid (KD.out.alloc (.cells #[.int .i64 0, .int .i64 0, .int .i64 0] 23))
  have KE := Lib.hid (KE.out.alloc (.cells #[.int .i64 0, .int .i64 0, .int .i64 0] 23))
  have KZ := Lib.hid (Blk.new u8 #[.int .i64 0, .int .i64 0, .int .i64 0] 23)
  go_wp2_with fail
  generalize u8.alloc (.cells #[.int .i64 0, .int .i64 0, .int .i64 0] 23) = v9 at HB KT KC KD KE KZ ⊢
  clear ltKC cKC0 cKC1 cKC2 ltKD cKD0 cKD1 cKD2 ltKE cKE0 cKE1 cKE2
  ((with_reducible refine (room_S v9).mono ?_))
  rintro e u10 ⟨rfl, hb⟩
  have HB := Lib.hid (bstep HB.out hb)
  have KT := Lib.hid (KT.out.below' hb)
  have KC := Lib.hid (KC.out.below' hb)
  have KD := Lib.hid (KD.out.below' hb)
  have KE := Lib.hid (KE.out.below' hb)
  have KZ := Lib.hid (KZ.out.below' hb)
  clear hb
  go_wp2_with fail
  ((with_reducible refine (none_any u10).mono ?_))
  rintro e w' ⟨rfl, rfl⟩
  go_wp2
  go_ret
  exact ⟨rfl, bel_al HB.out _⟩
end Go.Proofs.YtanccoahpcfbnaaDoor
