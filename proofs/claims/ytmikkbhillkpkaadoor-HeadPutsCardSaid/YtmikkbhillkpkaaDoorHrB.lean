/-
  selionref06.Encode.
-/
import Derived.Test.YtmikkbhillkpkaaDoorHrA
namespace Go.Proofs.YtmikkbhillkpkaaDoor
open Go.RowKit Go.Lib Go.Shelf
attribute [local go_sem] Oper.semAt_some
set_option linter.unusedSimpArgs false
set_option linter.unusedVariables false

theorem rEnc_no (m : Mk) (h : rightB m = false) (w : World) : Calls Tryd.prog 11 #[.agg (mkA m)] w fun e w' => e = .returned (.tuple #[.string ⟨#[]⟩, .int .i64 60]) ∧ Below w.heap.size w w' := by
  obtain ⟨b0, hB0, hs0⟩ := blk1 w (mkA m) 23
  have hr := rright_any m (w.alloc (.cells (mkA m) 23))
  rw [h] at hr
  have HR := Lib.hid hr
  have HB0 := Lib.hid hB0
  clear hr h hB0 b0 hs0
  go_enter Tryd.func11, Tryd.ntmps11
  dsimp only [mkA] at HR HB0 ⊢
  go_wp2_with fail
  ((with_reducible refine HR.out.mono ?_))
  rintro e w1 ⟨rfl, hb⟩
  have HB := Lib.hid (bstep HB0.out hb)
  clear hb HR
  go_wp2
  go_ret2
  exact ⟨rfl, HB.out⟩
theorem bc7 (K L C E : Nat) (hK : K ≤ 60) (hL : L ≤ 40000) (hC : C ≤ 3) (hE : E ≤ 255) : (byteCells (hd7 K L C E)).toArray = #[.int .u8 181, .int .u8 (K : Int), .int .u8 (C : Int), .int .u8 (E : Int), .int .u8 ((L : Int) % 256), .int .u8 ((L : Int) / 256 % 256), .int .u8 ((L : Int) / 65536)] := by
  simp only [byteCells, hd7, List.map_cons, List.map_nil, byteN_nat]
  simp
  refine ⟨by omega, by omega, by omega, by omega⟩
theorem mk_cat (a b : List UInt8) : (⟨a.toArray⟩ : ByteArray) ++ ⟨b.toArray⟩ = ⟨(a ++ b).toArray⟩ := by
  apply ByteArray.ext
  simp
set_option maxRecDepth 100000 in
set_option maxHeartbeats 2000000 in
theorem rEnc_yes (K L C E : Nat) (hK : 1 ≤ K ∧ K ≤ 60) (hL : L ≤ 40000) (hC : 1 ≤ C ∧ C ≤ 3) (hE : E ≤ 255) (w : World) : Calls Tryd.prog 11 #[.agg (mkA (mkN K L C E))] w fun e w' => e = .returned (.tuple #[.string ⟨(hd8 K L C E).toArray⟩, .int .i64 0]) ∧ Below w.heap.size w w' := by
  obtain ⟨b0, hB0, hs0⟩ := blk1 w (mkA (mkN K L C E)) 23
  have hr := rright_any (mkN K L C E) (w.alloc (.cells (mkA (mkN K L C E)) 23))
  rw [rightB_in hK hL hC hE] at hr
  have HR := Lib.hid hr
  have HB0 := Lib.hid hB0
  have HM := Lib.hid b0
  obtain ⟨hK1, hK2⟩ := hK
  obtain ⟨hC1, hC2⟩ := hC
  clear hr hB0 b0 hs0
  go_enter Tryd.func11, Tryd.ntmps11
  dsimp only [mkA, mkN] at HR HB0 HM ⊢
  go_wp2_with fail
  ((with_reducible refine HR.out.mono ?_))
  rintro e w1 ⟨rfl, hb⟩
  have bM := HM.out.below' hb
  have m0 : w1.cell? ⟨w.heap.size, 0, none⟩ = some (.int .i64 (K : Int)) := bM.cell rfl
  have m1 : w1.cell? ⟨w.heap.size, 1, none⟩ = some (.int .i64 (L : Int)) := bM.cell rfl
  have m2 : w1.cell? ⟨w.heap.size, 2, none⟩ = some (.int .i64 (C : Int)) := bM.cell rfl
  have m3 : w1.cell? ⟨w.heap.size, 3, none⟩ = some (.int .i64 (E : Int)) := bM.cell rfl
  have HB := Lib.hid (bstep HB0.out hb)
  clear hb HR bM HM
  obtain ⟨T7, hT7⟩ : ∃ T, (⟨(hd7 K L C E).toArray⟩ : ByteArray) = T := ⟨_, rfl⟩
  have h7 := Blk.new w1 #[.int .u8 181, .int .u8 (K : Int), .int .u8 (C : Int), .int .u8 (E : Int), .int .u8 ((L : Int) % 256), .int .u8 ((L : Int) / 256 % 256), .int .u8 ((L : Int) / 65536)] 5
  rw [← bc7 K L C E hK2 hL hC2 hE] at h7
  have hcv := run_str (own_blk (base := 0) (n := 7) (size := 1) h7 (Nat.zero_le _) rfl (by unfold maxLen; omega))
  rw [bc7 K L C E hK2 hL hC2 hE, hT7] at hcv
  have hev := reven_any T7 (by rw [← hT7]; show 7 ≤ 100; omega)
  rw [show T7.data.toList = hd7 K L C E by rw [← hT7]] at hev
  have HE := Lib.hid hev
  have HT7 := Lib.hid hT7
  clear h7 hev hT7
  obtain ⟨x, hx⟩ : ∃ x, xorL (hd7 K L C E) = x := ⟨_, rfl⟩
  have HX := Lib.hid hx
  rw [hx] at HE
  clear hx
  go_wp2_with fail
  clear hcv
  ((with_reducible refine (HE.out _).mono ?_))
  rintro e w' ⟨rfl, rfl⟩
  generalize hW : w1.alloc (.cells #[.int .u8 181, .int .u8 (K : Int), .int .u8 (C : Int), .int .u8 (E : Int), .int .u8 ((L : Int) % 256), .int .u8 ((L : Int) / 256 % 256), .int .u8 ((L : Int) / 65536)] 5) = W2
  have hBW : Below w.heap.size w W2 := by rw [← hW]; exact bel_al' HB.out _
  have HBW := Lib.hid hBW
  have hcv2 := run_str (own_blk (base := 0) (n := 1) (size := 1) (cs := byteCells [x]) (Blk.new W2 _ 5) (Nat.zero_le _) rfl (by unfold maxLen; omega))
  rw [show (byteCells [x]).toArray = #[.int .u8 (x.toNat : Int)] from rfl] at hcv2
  have hts : T7.size ≤ 7 := by rw [← HT7.out]; exact Nat.le_refl 7
  clear hBW hW m0 m1 m2 m3
  go_wp2
  go_ret2
  refine ⟨?_, bel_al' HBW.out _⟩
  rw [← HT7.out, show hd8 K L C E = hd7 K L C E ++ [xorL (hd7 K L C E)] from rfl, HX.out, ← mk_cat]
  rfl
end Go.Proofs.YtmikkbhillkpkaaDoor
