/-
  selionref08.Next and All: the holes of a table; what lay in memory stays.
-/
import Derived.Test.YtanccoahpcfbnaaDoorRefA
import Derived.Test.YtanccoahpcfbnaaDoorHoleNx
namespace Go.Proofs.YtanccoahpcfbnaaDoor
open Go.RowKit Go.Lib Go.Shelf
attribute [local go_sem] Oper.semAt_some

set_option maxRecDepth 100000 in
set_option maxHeartbeats 2000000 in
theorem rnext_neg (b o cap : Nat) (z : Nat → Int) (f : Int) (w : World) (hT : Tab w b o z) (hr : rightT z = true) (hf : f < 0) :
    Calls Tryd.prog 43 #[.slice (some ⟨b, o, none⟩) 32 cap, .int .i64 f] w fun e w' => e = .returned (firstV (holesZ (keptZ z) 0).head?) ∧ Below w.heap.size w w' := by
  have HB := Lib.hid ((Below.refl w.heap.size w).alloc (Nat.le_refl _) (.cells #[.int .i64 0, .int .i64 0] 53))
  have HT := Lib.hid (hT.below HB.out)
  have HR := Lib.hid hr
  have HX := Lib.hid (Blk.new w #[.int .i64 0, .int .i64 0] 53)
  clear hT hr
  go_enter Tryd.func43, Tryd.ntmps43
  go_wp2_with fail
  generalize w.alloc (.cells #[.int .i64 0, .int .i64 0] 53) = W1 at HB HT HX ⊢
  ((with_reducible refine (rright_yes b o cap z _ HT.out HR.out).mono ?_))
  rintro e w' ⟨rfl, rfl⟩
  go_wp2
  go_loop [6] (fun i => ∃ k : Nat, i = .int .i64 (k : Int) ∧ holesZ (keptZ z) k = holesZ (keptZ z) 0) (fun i => 64 - (intOf i).toNat)
  case atStart => exact ⟨0, rfl, rfl⟩
  case round =>
    obtain ⟨k, rfl, hh⟩ := hrel
    have HH := Lib.hid hh
    clear hh
    by_cases hk : k < 32
    · cases hq : keptZ z k with
      | true =>
        have HQ := Lib.hid hq
        have HK := Lib.hid (holesZ_kept (keptZ z) k hk hq)
        clear hq
        go_wp2_with (go_at_call 56; ((with_reducible refine (rkept_t k b o cap z _ HT.out HR.out hk HQ.out).mono ?_)); rintro e w' ⟨rfl, rfl⟩)
        go_round
        case rel => exact ⟨k + 1, by go_num, by rw [← HK.out]; exact HH.out⟩
        case measure => simp [intOf]; omega
      | false =>
        have HQ := Lib.hid hq
        have HF := Lib.hid (holesZ_free (keptZ z) k hk hq)
        clear hq
        go_wp2_with (go_at_call 56; ((with_reducible refine (rkept_f k b o cap z _ HT.out HR.out hk HQ.out).mono ?_)); rintro e w' ⟨rfl, rfl⟩)
        go_loop [7] (fun i => ∃ j : Nat, k ≤ j ∧ j ≤ 32 ∧ i = .int .i64 (j : Int) ∧ freeIn (keptZ z) k j) (fun i => 64 - (intOf i).toNat)
        case atStart => exact ⟨k, Nat.le_refl _, by omega, rfl, fun j h1 h2 => by omega⟩
        case round =>
          obtain ⟨j, hj1, hj2, rfl, hfr⟩ := hrel
          have HFR := Lib.hid hfr
          clear hfr
          by_cases hj : j < 32
          · cases hqj : keptZ z j with
            | false =>
              have HQJ := Lib.hid hqj
              clear hqj
              go_wp2_with (go_at_call 56; ((with_reducible refine (rkept_f j b o cap z _ HT.out HR.out hj HQJ.out).mono ?_)); rintro e w' ⟨rfl, rfl⟩)
              go_round
              case rel => exact ⟨j + 1, by omega, by omega, by go_num, free_snoc HFR.out HQJ.out⟩
              case measure => simp [intOf]; omega
            | true =>
              have HQJ := Lib.hid hqj
              have hst := stopZ_eq (keptZ z) k j hj1 hj2 HFR.out (fun _ => hqj)
              have hfin : (holesZ (keptZ z) 0).head? = some (k, j) := by rw [← HH.out, HF.out, hst]; rfl
              have HFIN := Lib.hid hfin
              clear hqj hst hfin
              go_wp2_with (first
                | (go_at_call 56; ((with_reducible refine (rkept_t j b o cap z _ HT.out HR.out hj HQJ.out).mono ?_)); rintro e w' ⟨rfl, rfl⟩)
                | (refine wpList_store_blk rfl 53 _ _ rfl _ _ (hole2 (some (k, j))) 53 HX.out rfl rfl Tryd.infoHole2 rfl (hole2_one _) ?_; intro W4 bR4 bK4 hB4 hs4; have HB4 := Lib.hid (HB.out.trans (hB4 _ (Nat.le_refl _))); clear bK4 hB4 hs4))
              have hrow := run_loadVar_row (P := Tryd.prog) W4 w.heap.size 53 53 _ (0, 0) _ bR4 Tryd.underlying53 rfl (by rw [hole2_size]; exact Tryd.infoHole2)
              exact bodyPost_ret (v := firstV (some (k, j))) (res_cell_tmp rfl _ _ _ _ _ rfl rfl hrow) rfl ⟨by rw [HFIN.out], HB4.out⟩
          · have hst := stopZ_eq (keptZ z) k j hj1 hj2 HFR.out (fun h => absurd h hj)
            have hfin : (holesZ (keptZ z) 0).head? = some (k, j) := by rw [← HH.out, HF.out, hst]; rfl
            have HFIN := Lib.hid hfin
            clear hst hfin
            go_wp2_with (refine wpList_store_blk rfl 53 _ _ rfl _ _ (hole2 (some (k, j))) 53 HX.out rfl rfl Tryd.infoHole2 rfl (hole2_one _) ?_; intro W4 bR4 bK4 hB4 hs4; have HB4 := Lib.hid (HB.out.trans (hB4 _ (Nat.le_refl _))); clear bK4 hB4 hs4)
            have hrow := run_loadVar_row (P := Tryd.prog) W4 w.heap.size 53 53 _ (0, 0) _ bR4 Tryd.underlying53 rfl (by rw [hole2_size]; exact Tryd.infoHole2)
            exact bodyPost_ret (v := firstV (some (k, j))) (res_cell_tmp rfl _ _ _ _ _ rfl rfl hrow) rfl ⟨by rw [HFIN.out], HB4.out⟩
    · have hfin : (holesZ (keptZ z) 0).head? = none := by rw [← HH.out, holesZ_end _ k (by omega)]; rfl
      have HFIN := Lib.hid hfin
      clear hfin
      go_wp2_with (refine wpList_store_blk rfl 53 _ _ rfl _ _ (hole2 none) 53 HX.out rfl rfl Tryd.infoHole2 rfl (hole2_one _) ?_; intro W4 bR4 bK4 hB4 hs4; have HB4 := Lib.hid (HB.out.trans (hB4 _ (Nat.le_refl _))); clear bK4 hB4 hs4)
      have hrow := run_loadVar_row (P := Tryd.prog) W4 w.heap.size 53 53 _ (0, 0) _ bR4 Tryd.underlying53 rfl (by rw [hole2_size]; exact Tryd.infoHole2)
      exact bodyPost_ret (v := firstV none) (res_cell_tmp rfl _ _ _ _ _ rfl rfl hrow) rfl ⟨by rw [HFIN.out], HB4.out⟩

set_option maxRecDepth 100000 in
set_option maxHeartbeats 2000000 in
theorem rnext_pos (b o cap : Nat) (z : Nat → Int) (m : Nat) (w : World) (hT : Tab w b o z) (hr : rightT z = true)  :
    Calls Tryd.prog 43 #[.slice (some ⟨b, o, none⟩) 32 cap, .int .i64 (m : Int)] w fun e w' => e = .returned (firstV (holesZ (keptZ z) m).head?) ∧ Below w.heap.size w w' := by
  have HB := Lib.hid ((Below.refl w.heap.size w).alloc (Nat.le_refl _) (.cells #[.int .i64 0, .int .i64 0] 53))
  have HT := Lib.hid (hT.below HB.out)
  have HR := Lib.hid hr
  have HX := Lib.hid (Blk.new w #[.int .i64 0, .int .i64 0] 53)
  clear hT hr
  go_enter Tryd.func43, Tryd.ntmps43
  go_wp2_with fail
  generalize w.alloc (.cells #[.int .i64 0, .int .i64 0] 53) = W1 at HB HT HX ⊢
  ((with_reducible refine (rright_yes b o cap z _ HT.out HR.out).mono ?_))
  rintro e w' ⟨rfl, rfl⟩
  go_wp2
  go_loop [6] (fun i => ∃ k : Nat, i = .int .i64 (k : Int) ∧ holesZ (keptZ z) k = holesZ (keptZ z) m) (fun i => 64 - (intOf i).toNat)
  case atStart => exact ⟨m, rfl, rfl⟩
  case round =>
    obtain ⟨k, rfl, hh⟩ := hrel
    have HH := Lib.hid hh
    clear hh
    by_cases hk : k < 32
    · cases hq : keptZ z k with
      | true =>
        have HQ := Lib.hid hq
        have HK := Lib.hid (holesZ_kept (keptZ z) k hk hq)
        clear hq
        go_wp2_with (go_at_call 56; ((with_reducible refine (rkept_t k b o cap z _ HT.out HR.out hk HQ.out).mono ?_)); rintro e w' ⟨rfl, rfl⟩)
        go_round
        case rel => exact ⟨k + 1, by go_num, by rw [← HK.out]; exact HH.out⟩
        case measure => simp [intOf]; omega
      | false =>
        have HQ := Lib.hid hq
        have HF := Lib.hid (holesZ_free (keptZ z) k hk hq)
        clear hq
        go_wp2_with (go_at_call 56; ((with_reducible refine (rkept_f k b o cap z _ HT.out HR.out hk HQ.out).mono ?_)); rintro e w' ⟨rfl, rfl⟩)
        go_loop [7] (fun i => ∃ j : Nat, k ≤ j ∧ j ≤ 32 ∧ i = .int .i64 (j : Int) ∧ freeIn (keptZ z) k j) (fun i => 64 - (intOf i).toNat)
        case atStart => exact ⟨k, Nat.le_refl _, by omega, rfl, fun j h1 h2 => by omega⟩
        case round =>
          obtain ⟨j, hj1, hj2, rfl, hfr⟩ := hrel
          have HFR := Lib.hid hfr
          clear hfr
          by_cases hj : j < 32
          · cases hqj : keptZ z j with
            | false =>
              have HQJ := Lib.hid hqj
              clear hqj
              go_wp2_with (go_at_call 56; ((with_reducible refine (rkept_f j b o cap z _ HT.out HR.out hj HQJ.out).mono ?_)); rintro e w' ⟨rfl, rfl⟩)
              go_round
              case rel => exact ⟨j + 1, by omega, by omega, by go_num, free_snoc HFR.out HQJ.out⟩
              case measure => simp [intOf]; omega
            | true =>
              have HQJ := Lib.hid hqj
              have hst := stopZ_eq (keptZ z) k j hj1 hj2 HFR.out (fun _ => hqj)
              have hfin : (holesZ (keptZ z) m).head? = some (k, j) := by rw [← HH.out, HF.out, hst]; rfl
              have HFIN := Lib.hid hfin
              clear hqj hst hfin
              go_wp2_with (first
                | (go_at_call 56; ((with_reducible refine (rkept_t j b o cap z _ HT.out HR.out hj HQJ.out).mono ?_)); rintro e w' ⟨rfl, rfl⟩)
                | (refine wpList_store_blk rfl 53 _ _ rfl _ _ (hole2 (some (k, j))) 53 HX.out rfl rfl Tryd.infoHole2 rfl (hole2_one _) ?_; intro W4 bR4 bK4 hB4 hs4; have HB4 := Lib.hid (HB.out.trans (hB4 _ (Nat.le_refl _))); clear bK4 hB4 hs4))
              have hrow := run_loadVar_row (P := Tryd.prog) W4 w.heap.size 53 53 _ (0, 0) _ bR4 Tryd.underlying53 rfl (by rw [hole2_size]; exact Tryd.infoHole2)
              exact bodyPost_ret (v := firstV (some (k, j))) (res_cell_tmp rfl _ _ _ _ _ rfl rfl hrow) rfl ⟨by rw [HFIN.out], HB4.out⟩
          · have hst := stopZ_eq (keptZ z) k j hj1 hj2 HFR.out (fun h => absurd h hj)
            have hfin : (holesZ (keptZ z) m).head? = some (k, j) := by rw [← HH.out, HF.out, hst]; rfl
            have HFIN := Lib.hid hfin
            clear hst hfin
            go_wp2_with (refine wpList_store_blk rfl 53 _ _ rfl _ _ (hole2 (some (k, j))) 53 HX.out rfl rfl Tryd.infoHole2 rfl (hole2_one _) ?_; intro W4 bR4 bK4 hB4 hs4; have HB4 := Lib.hid (HB.out.trans (hB4 _ (Nat.le_refl _))); clear bK4 hB4 hs4)
            have hrow := run_loadVar_row (P := Tryd.prog) W4 w.heap.size 53 53 _ (0, 0) _ bR4 Tryd.underlying53 rfl (by rw [hole2_size]; exact Tryd.infoHole2)
            exact bodyPost_ret (v := firstV (some (k, j))) (res_cell_tmp rfl _ _ _ _ _ rfl rfl hrow) rfl ⟨by rw [HFIN.out], HB4.out⟩
    · have hfin : (holesZ (keptZ z) m).head? = none := by rw [← HH.out, holesZ_end _ k (by omega)]; rfl
      have HFIN := Lib.hid hfin
      clear hfin
      go_wp2_with (refine wpList_store_blk rfl 53 _ _ rfl _ _ (hole2 none) 53 HX.out rfl rfl Tryd.infoHole2 rfl (hole2_one _) ?_; intro W4 bR4 bK4 hB4 hs4; have HB4 := Lib.hid (HB.out.trans (hB4 _ (Nat.le_refl _))); clear bK4 hB4 hs4)
      have hrow := run_loadVar_row (P := Tryd.prog) W4 w.heap.size 53 53 _ (0, 0) _ bR4 Tryd.underlying53 rfl (by rw [hole2_size]; exact Tryd.infoHole2)
      exact bodyPost_ret (v := firstV none) (res_cell_tmp rfl _ _ _ _ _ rfl rfl hrow) rfl ⟨by rw [HFIN.out], HB4.out⟩

theorem rnext_yes (b o cap : Nat) (z : Nat → Int) (f : Int) (w : World) (hT : Tab w b o z) (hr : rightT z = true) :
    Calls Tryd.prog 43 #[.slice (some ⟨b, o, none⟩) 32 cap, .int .i64 f] w fun e w' => e = .returned (firstV (holesZ (keptZ z) (line0 f)).head?) ∧ Below w.heap.size w w' := by
  by_cases hf : f < 0
  · have h0 : line0 f = 0 := by unfold line0; omega
    rw [h0]
    exact rnext_neg b o cap z f w hT hr hf
  · have h0 : f = (line0 f : Int) := by unfold line0; omega
    have := rnext_pos b o cap z (line0 f) w hT hr
    rwa [← h0] at this
set_option maxRecDepth 100000 in
set_option maxHeartbeats 2000000 in
theorem rnext_no (p : Option Addr) (n cap : Nat) (f : Int) (w : World) (hI : IC w p n) (hn : n ≤ 34) (hA : NoTab w (.slice p n cap)) :
    Calls Tryd.prog 43 #[.slice p n cap, .int .i64 f] w fun e w' => e = .returned (firstV none) ∧ Below w.heap.size w w' := by
  have HB := Lib.hid ((Below.refl w.heap.size w).alloc (Nat.le_refl _) (.cells #[.int .i64 0, .int .i64 0] 53))
  have HI := Lib.hid (hI.below HB.out)
  have HA := Lib.hid (hA.below HB.out)
  have HX := Lib.hid (Blk.new w #[.int .i64 0, .int .i64 0] 53)
  clear hI hA
  go_enter Tryd.func43, Tryd.ntmps43
  go_wp2_with (first
    | (go_at_call 55; ((with_reducible refine (rright_no p n cap _ HI.out hn HA.out).mono ?_)); rintro e w' ⟨rfl, rfl⟩)
    | (refine wpList_store_blk rfl 53 _ _ rfl _ _ (hole2 none) 53 HX.out rfl rfl Tryd.infoHole2 rfl (hole2_one _) ?_; intro W4 bR4 bK4 hB4 hs4; have HB4 := Lib.hid (HB.out.trans (hB4 _ (Nat.le_refl _))); clear bK4 hB4 hs4))
  have hrow := run_loadVar_row (P := Tryd.prog) W4 w.heap.size 53 53 _ (0, 0) _ bR4 Tryd.underlying53 rfl (by rw [hole2_size]; exact Tryd.infoHole2)
  exact bodyPost_ret (v := firstV none) (res_cell_tmp rfl _ _ _ _ _ rfl rfl hrow) rfl ⟨rfl, HB4.out⟩
end Go.Proofs.YtanccoahpcfbnaaDoor
