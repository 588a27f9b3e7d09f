/-
  head.decode: of eight bytes whose numbers are not right.
-/
import Derived.Test.YtmikkbhillkpkaaDoorHdI
namespace Go.Proofs.YtmikkbhillkpkaaDoor
open Go.RowKit Go.Lib Go.Shelf
attribute [local go_sem] Oper.semAt_some
set_option linter.unusedSimpArgs false
set_option linter.unusedVariables false

/-- The numbers read so far. -/
def nk (f : Nat → Nat) : Nat → Array Value
  | 0 => #[.int .i64 0, .int .i64 0, .int .i64 0, .int .i64 0]
  | 1 => #[.int .i64 (f 0 : Int), .int .i64 0, .int .i64 0, .int .i64 0]
  | 2 => #[.int .i64 (f 0 : Int), .int .i64 (f 1 : Int), .int .i64 0, .int .i64 0]
  | 3 => #[.int .i64 (f 0 : Int), .int .i64 (f 1 : Int), .int .i64 (f 2 : Int), .int .i64 0]
  | _ => #[.int .i64 (f 0 : Int), .int .i64 (f 1 : Int), .int .i64 (f 2 : Int), .int .i64 (f 3 : Int)]
set_option maxRecDepth 100000 in
set_option maxHeartbeats 4000000 in
theorem hdec_bad (s : ByteArray) (hs8 : s.size = 8) (f : Nat → Nat) (hf : ∀ k, f k < 4294967296) (hRD : ∀ k, k < 4 → ∀ W, Calls Tryd.prog 47 #[.agg (fld k), .string s] W fun e w' => e = .returned (.int .i64 (f k : Int)) ∧ Below W.heap.size W w') (w : World) (V : HR) (hV : HV w V) (hr : rightB (mkN (f 0) (f 3) (f 1) (f 2)) = false) :
    Calls Tryd.prog 33 #[.string s] w fun e w' => e = .returned (.tuple #[.agg mk0, .iface 118 (.pointer (some V.hH))]) ∧ Below w.heap.size w w' := by
  have cH := hV.cH.1
  have hd : ((s.size : Int) != 8) = false := by simp; omega
  have hgl : 0 < w.heap.size := World.block_lt_of_cell? w _ cH
  have CH := Lib.hid cH
  have g0 : w.cell? ⟨4, 0, none⟩ = some (.int .i64 1) := hV.fl 0 _ rfl
  have g1 : w.cell? ⟨4, 1, none⟩ = some (.int .i64 1) := hV.fl 1 _ rfl
  have g2 : w.cell? ⟨4, 2, none⟩ = some (.int .i64 1) := hV.fl 2 _ rfl
  have g3 : w.cell? ⟨4, 3, none⟩ = some (.int .i64 60) := hV.fl 3 _ rfl
  have g4 : w.cell? ⟨4, 4, none⟩ = some (.int .i64 2) := hV.fl 4 _ rfl
  have g5 : w.cell? ⟨4, 5, none⟩ = some (.int .i64 1) := hV.fl 5 _ rfl
  have g6 : w.cell? ⟨4, 6, none⟩ = some (.int .i64 1) := hV.fl 6 _ rfl
  have g7 : w.cell? ⟨4, 7, none⟩ = some (.int .i64 3) := hV.fl 7 _ rfl
  have g8 : w.cell? ⟨4, 8, none⟩ = some (.int .i64 3) := hV.fl 8 _ rfl
  have g9 : w.cell? ⟨4, 9, none⟩ = some (.int .i64 1) := hV.fl 9 _ rfl
  have g10 : w.cell? ⟨4, 10, none⟩ = some (.int .i64 0) := hV.fl 10 _ rfl
  have g11 : w.cell? ⟨4, 11, none⟩ = some (.int .i64 255) := hV.fl 11 _ rfl
  have g12 : w.cell? ⟨4, 12, none⟩ = some (.int .i64 4) := hV.fl 12 _ rfl
  have g13 : w.cell? ⟨4, 13, none⟩ = some (.int .i64 3) := hV.fl 13 _ rfl
  have g14 : w.cell? ⟨4, 14, none⟩ = some (.int .i64 0) := hV.fl 14 _ rfl
  have g15 : w.cell? ⟨4, 15, none⟩ = some (.int .i64 40000) := hV.fl 15 _ rfl
  have gl : 4 < w.heap.size := World.block_lt_of_cell? w _ g0
  have gl1 : 4 < w.heap.size + 1 := by omega
  have gl2 : 4 < w.heap.size + 1 + 1 := by omega
  have i0 : ∀ w, (Instr.index 89 (.agg #[.int .i64 1, .int .i64 1, .int .i64 1, .int .i64 60, .int .i64 2, .int .i64 1, .int .i64 1, .int .i64 3, .int .i64 3, .int .i64 1, .int .i64 0, .int .i64 255, .int .i64 4, .int .i64 3, .int .i64 0, .int .i64 40000]) (.int .i64 0)).run Tryd.prog w = .ok (.agg #[.int .i64 1, .int .i64 1, .int .i64 1, .int .i64 60]) w := fun _ => by kernel_rfl
  have i1 : ∀ w, (Instr.index 89 (.agg #[.int .i64 1, .int .i64 1, .int .i64 1, .int .i64 60, .int .i64 2, .int .i64 1, .int .i64 1, .int .i64 3, .int .i64 3, .int .i64 1, .int .i64 0, .int .i64 255, .int .i64 4, .int .i64 3, .int .i64 0, .int .i64 40000]) (.int .i64 1)).run Tryd.prog w = .ok (.agg #[.int .i64 2, .int .i64 1, .int .i64 1, .int .i64 3]) w := fun _ => by kernel_rfl
  have i2 : ∀ w, (Instr.index 89 (.agg #[.int .i64 1, .int .i64 1, .int .i64 1, .int .i64 60, .int .i64 2, .int .i64 1, .int .i64 1, .int .i64 3, .int .i64 3, .int .i64 1, .int .i64 0, .int .i64 255, .int .i64 4, .int .i64 3, .int .i64 0, .int .i64 40000]) (.int .i64 2)).run Tryd.prog w = .ok (.agg #[.int .i64 3, .int .i64 1, .int .i64 0, .int .i64 255]) w := fun _ => by kernel_rfl
  have i3 : ∀ w, (Instr.index 89 (.agg #[.int .i64 1, .int .i64 1, .int .i64 1, .int .i64 60, .int .i64 2, .int .i64 1, .int .i64 1, .int .i64 3, .int .i64 3, .int .i64 1, .int .i64 0, .int .i64 255, .int .i64 4, .int .i64 3, .int .i64 0, .int .i64 40000]) (.int .i64 3)).run Tryd.prog w = .ok (.agg #[.int .i64 4, .int .i64 3, .int .i64 0, .int .i64 40000]) w := fun _ => by kernel_rfl
  have HV := Lib.hid hV
  have HRD := Lib.hid hRD
  have HS8 := Lib.hid hs8
  clear hV hs8 hRD cH
  go_enter Tryd.func33, Tryd.ntmps33
  go_wp2
  go_step3
  go_wp2
  clear gl gl1 gl2 g0 g1 g2 g3 g4 g5 g6 g7 g8 g9 g10 g11 g12 g13 g14 g15
  obtain ⟨b0, b1, b2, hB1, hsz⟩ := blk3 w #[.string s] mk0 mk0 9 23 88
  have hB1' := hB1
  have HB1 := Lib.hid hB1'
  clear hB1'
  generalize ((w.alloc (.cells #[.string s] 9)).alloc (.cells mk0 23)).alloc (.cells mk0 88) = w1 at b0 b1 b2 hB1 hsz HB1 ⊢
  have hBS := b0
  have B0 := Lib.hid b0
  have B1 := Lib.hid b1
  have B2 := Lib.hid b2
  clear b0 b1 b2 hB1 hBS hsz
  go_loopw [18] (fun s18 wr => ∃ k : Nat, k ≤ 4 ∧ s18 = .int .i64 (k : Int) ∧ Blk wr w.heap.size #[.string s] 9 ∧ Blk wr (w.heap.size + 1) mk0 23 ∧ Blk wr (w.heap.size + 1 + 1) (nk f k) 88 ∧ Below w.heap.size w wr) (fun s18 _ => 4 - (intOf s18).toNat)
  case atStart => exact ⟨0, by omega, rfl, B0.out, B1.out, B2.out, HB1.out⟩
  case round =>
    obtain ⟨k, hk, rfl, q0, q1, q2, hB⟩ := hrel
    clear B0 B1 B2 HB1
    have c0 : wr.cell? ⟨w.heap.size, 0, none⟩ = some (.string s) := q0.cell rfl
    have Q0 := Lib.hid q0
    have Q1 := Lib.hid q1
    have Q2 := Lib.hid q2
    have HB := Lib.hid hB
    have l0 := q0.lt
    clear q0 q1 q2 hB
    rcases (by omega : k = 0 ∨ k = 1 ∨ k = 2 ∨ k = 3 ∨ k = 4) with rfl | rfl | rfl | rfl | rfl
    · go_wp2_with fail
      have hrd : Calls Tryd.prog 47 #[.agg #[.int .i64 1, .int .i64 1, .int .i64 1, .int .i64 60], .string s] (wr.alloc (.cells #[.int .i64 1, .int .i64 1, .int .i64 1, .int .i64 60] 70)) fun e w' => e = .returned (.int .i64 (f 0 : Int)) ∧ Below (wr.alloc (.cells #[.int .i64 1, .int .i64 1, .int .i64 1, .int .i64 60] 70)).heap.size (wr.alloc (.cells #[.int .i64 1, .int .i64 1, .int .i64 1, .int .i64 60] 70)) w' := HRD.out 0 (by omega) (wr.alloc (.cells #[.int .i64 1, .int .i64 1, .int .i64 1, .int .i64 60] 70))
      ((with_reducible refine hrd.mono ?_))
      rintro e u ⟨rfl, hb⟩
      clear hrd
      have hu := ((Below.refl _ wr).alloc (Nat.le_refl _) (.cells #[.int .i64 1, .int .i64 1, .int .i64 1, .int .i64 60] 70)).trans (hb.mono (by simp))
      have q0 := Q0.out.below' hu
      have q1 := Q1.out.below' hu
      have q2 : Blk u (w.heap.size + 1 + 1) #[.int .i64 0, .int .i64 0, .int .i64 0, .int .i64 0] 88 := Q2.out.below' hu
      have z0 : u.cell? ⟨w.heap.size + 1 + 1, 0, none⟩ = some (.int .i64 0) := q2.cell rfl
      have f0 := q2.frozen 0
      have R0 := Lib.hid q0
      have R1 := Lib.hid q1
      have R2 := Lib.hid q2
      have RB := Lib.hid (bstep HB.out hu)
      clear q0 q1 q2 hu hb c0
      go_wp2
      go_roundw
      case rel => exact ⟨0 + 1, by omega, by go_num, R0.out.other (by omega) _ _, R1.out.other (by omega) _ _, R2.out.set 0 _, bel_set' RB.out (by omega)⟩
      case measure => simp [intOf]
    · go_wp2_with fail
      have hrd : Calls Tryd.prog 47 #[.agg #[.int .i64 2, .int .i64 1, .int .i64 1, .int .i64 3], .string s] (wr.alloc (.cells #[.int .i64 2, .int .i64 1, .int .i64 1, .int .i64 3] 70)) fun e w' => e = .returned (.int .i64 (f 1 : Int)) ∧ Below (wr.alloc (.cells #[.int .i64 2, .int .i64 1, .int .i64 1, .int .i64 3] 70)).heap.size (wr.alloc (.cells #[.int .i64 2, .int .i64 1, .int .i64 1, .int .i64 3] 70)) w' := HRD.out 1 (by omega) (wr.alloc (.cells #[.int .i64 2, .int .i64 1, .int .i64 1, .int .i64 3] 70))
      ((with_reducible refine hrd.mono ?_))
      rintro e u ⟨rfl, hb⟩
      clear hrd
      have hu := ((Below.refl _ wr).alloc (Nat.le_refl _) (.cells #[.int .i64 2, .int .i64 1, .int .i64 1, .int .i64 3] 70)).trans (hb.mono (by simp))
      have q0 := Q0.out.below' hu
      have q1 := Q1.out.below' hu
      have q2 : Blk u (w.heap.size + 1 + 1) #[.int .i64 (f 0 : Int), .int .i64 0, .int .i64 0, .int .i64 0] 88 := Q2.out.below' hu
      have z0 : u.cell? ⟨w.heap.size + 1 + 1, 1, none⟩ = some (.int .i64 0) := q2.cell rfl
      have f0 := q2.frozen 1
      have R0 := Lib.hid q0
      have R1 := Lib.hid q1
      have R2 := Lib.hid q2
      have RB := Lib.hid (bstep HB.out hu)
      clear q0 q1 q2 hu hb c0
      go_wp2
      go_roundw
      case rel => exact ⟨1 + 1, by omega, by go_num, R0.out.other (by omega) _ _, R1.out.other (by omega) _ _, R2.out.set 1 _, bel_set' RB.out (by omega)⟩
      case measure => simp [intOf]
    · go_wp2_with fail
      have hrd : Calls Tryd.prog 47 #[.agg #[.int .i64 3, .int .i64 1, .int .i64 0, .int .i64 255], .string s] (wr.alloc (.cells #[.int .i64 3, .int .i64 1, .int .i64 0, .int .i64 255] 70)) fun e w' => e = .returned (.int .i64 (f 2 : Int)) ∧ Below (wr.alloc (.cells #[.int .i64 3, .int .i64 1, .int .i64 0, .int .i64 255] 70)).heap.size (wr.alloc (.cells #[.int .i64 3, .int .i64 1, .int .i64 0, .int .i64 255] 70)) w' := HRD.out 2 (by omega) (wr.alloc (.cells #[.int .i64 3, .int .i64 1, .int .i64 0, .int .i64 255] 70))
      ((with_reducible refine hrd.mono ?_))
      rintro e u ⟨rfl, hb⟩
      clear hrd
      have hu := ((Below.refl _ wr).alloc (Nat.le_refl _) (.cells #[.int .i64 3, .int .i64 1, .int .i64 0, .int .i64 255] 70)).trans (hb.mono (by simp))
      have q0 := Q0.out.below' hu
      have q1 := Q1.out.below' hu
      have q2 : Blk u (w.heap.size + 1 + 1) #[.int .i64 (f 0 : Int), .int .i64 (f 1 : Int), .int .i64 0, .int .i64 0] 88 := Q2.out.below' hu
      have z0 : u.cell? ⟨w.heap.size + 1 + 1, 2, none⟩ = some (.int .i64 0) := q2.cell rfl
      have f0 := q2.frozen 2
      have R0 := Lib.hid q0
      have R1 := Lib.hid q1
      have R2 := Lib.hid q2
      have RB := Lib.hid (bstep HB.out hu)
      clear q0 q1 q2 hu hb c0
      go_wp2
      go_roundw
      case rel => exact ⟨2 + 1, by omega, by go_num, R0.out.other (by omega) _ _, R1.out.other (by omega) _ _, R2.out.set 2 _, bel_set' RB.out (by omega)⟩
      case measure => simp [intOf]
    · go_wp2_with fail
      have hrd : Calls Tryd.prog 47 #[.agg #[.int .i64 4, .int .i64 3, .int .i64 0, .int .i64 40000], .string s] (wr.alloc (.cells #[.int .i64 4, .int .i64 3, .int .i64 0, .int .i64 40000] 70)) fun e w' => e = .returned (.int .i64 (f 3 : Int)) ∧ Below (wr.alloc (.cells #[.int .i64 4, .int .i64 3, .int .i64 0, .int .i64 40000] 70)).heap.size (wr.alloc (.cells #[.int .i64 4, .int .i64 3, .int .i64 0, .int .i64 40000] 70)) w' := HRD.out 3 (by omega) (wr.alloc (.cells #[.int .i64 4, .int .i64 3, .int .i64 0, .int .i64 40000] 70))
      ((with_reducible refine hrd.mono ?_))
      rintro e u ⟨rfl, hb⟩
      clear hrd
      have hu := ((Below.refl _ wr).alloc (Nat.le_refl _) (.cells #[.int .i64 4, .int .i64 3, .int .i64 0, .int .i64 40000] 70)).trans (hb.mono (by simp))
      have q0 := Q0.out.below' hu
      have q1 := Q1.out.below' hu
      have q2 : Blk u (w.heap.size + 1 + 1) #[.int .i64 (f 0 : Int), .int .i64 (f 1 : Int), .int .i64 (f 2 : Int), .int .i64 0] 88 := Q2.out.below' hu
      have z0 : u.cell? ⟨w.heap.size + 1 + 1, 3, none⟩ = some (.int .i64 0) := q2.cell rfl
      have f0 := q2.frozen 3
      have R0 := Lib.hid q0
      have R1 := Lib.hid q1
      have R2 := Lib.hid q2
      have RB := Lib.hid (bstep HB.out hu)
      clear q0 q1 q2 hu hb c0
      go_wp2
      go_roundw
      case rel => exact ⟨3 + 1, by omega, by go_num, R0.out.other (by omega) _ _, R1.out.other (by omega) _ _, R2.out.set 3 _, bel_set' RB.out (by omega)⟩
      case measure => simp [intOf]
    · have q2 : Blk wr (w.heap.size + 1 + 1) #[.int .i64 (f 0 : Int), .int .i64 (f 1 : Int), .int .i64 (f 2 : Int), .int .i64 (f 3 : Int)] 88 := Q2.out
      have n0 : wr.cell? ⟨w.heap.size + 1 + 1, 0, none⟩ = some (.int .i64 (f 0 : Int)) := q2.cell rfl
      have n1 : wr.cell? ⟨w.heap.size + 1 + 1, 1, none⟩ = some (.int .i64 (f 1 : Int)) := q2.cell rfl
      have n2 : wr.cell? ⟨w.heap.size + 1 + 1, 2, none⟩ = some (.int .i64 (f 2 : Int)) := q2.cell rfl
      have n3 : wr.cell? ⟨w.heap.size + 1 + 1, 3, none⟩ = some (.int .i64 (f 3 : Int)) := q2.cell rfl
      clear q2
      go_wp2_with fail
      have hB2 := bel_al' HB.out (.cells #[.int .i64 (f 0 : Int), .int .i64 (f 3 : Int), .int .i64 (f 1 : Int), .int .i64 (f 2 : Int)] 23)
      have hrt := hright_any (mkN (f 0) (f 3) (f 1) (f 2)) (wr.alloc (.cells #[.int .i64 (f 0 : Int), .int .i64 (f 3 : Int), .int .i64 (f 1 : Int), .int .i64 (f 2 : Int)] 23)) V (HV.out.below hB2)
      rw [hr] at hrt
      dsimp only [mkA, mkN] at hrt
      ((with_reducible refine hrt.mono ?_))
      rintro e u ⟨rfl, hb⟩
      clear hrt
      have hu := ((Below.refl _ wr).alloc (Nat.le_refl _) (.cells #[.int .i64 (f 0 : Int), .int .i64 (f 3 : Int), .int .i64 (f 1 : Int), .int .i64 (f 2 : Int)] 23)).trans (hb.mono (by simp))
      have hBu := bstep HB.out hu
      have cH : u.cell? ⟨0, 0, none⟩ = some (.iface 118 (.pointer (some V.hH))) := cell_below CH.out hBu
      have q1 := Q1.out.below' hu
      have m0 : u.cell? ⟨w.heap.size + 1, 0, none⟩ = some (.int .i64 0) := q1.cell rfl
      have m1 : u.cell? ⟨w.heap.size + 1, 1, none⟩ = some (.int .i64 0) := q1.cell rfl
      have m2 : u.cell? ⟨w.heap.size + 1, 2, none⟩ = some (.int .i64 0) := q1.cell rfl
      have m3 : u.cell? ⟨w.heap.size + 1, 3, none⟩ = some (.int .i64 0) := q1.cell rfl
      have e0 := q1.frozen 0
      have e1 := q1.frozen 1
      have e2 := q1.frozen 2
      have e3 := q1.frozen 3
      have HBU := Lib.hid hBu
      clear q1 hu hb hBu hB2 n0 n1 n2 n3 c0 l0 hgl
      go_wp2
      go_region
      all_goals
        go_wp2
        try rw [Exit.noGoto_ret]
        refine bodyPost_ret (v := .tuple #[.agg mk0, .iface 118 (.pointer (some V.hH))]) (by simp [results, Tryd.results33, go_sem, m0, m1, m2, m3]) rfl ⟨rfl, ?_⟩
        repeat (first | exact HBU.out | refine bel_al' ?_ _ | refine bel_set' ?_ (by omega) | refine bel_dr' ?_)
end Go.Proofs.YtmikkbhillkpkaaDoor
