/-
  selionref08.Fits and Longest; what lay in memory stays.
-/
import Derived.Test.YtgjhdjfjfmbejaaRefC
import Derived.Test.YtgjhdjfjfmbejaaHoleLinePlain
namespace Go.Proofs.Ytgjhdjfjfmbejaa
open Go.RowKit Go.Lib Go.Shelf
attribute [local go_sem] Oper.semAt_some

theorem HL.slice {w : World} {v : Value} {ps : List (Nat × Nat)} (h : HL w v ps) : ∃ p cap, v = .slice p ps.length cap := by
  obtain ⟨p, c, e, _⟩ := h
  exact ⟨p, c, e⟩
theorem find_take_none {α : Type} (f : α → Bool) (ps : List α) (k : Nat) (x : α) (h : ps[k]? = some x) (hn : (ps.take k).find? f = none) (hx : f x = false) : (ps.take (k + 1)).find? f = none := by
  obtain ⟨hk, rfl⟩ := List.getElem?_eq_some_iff.1 h
  rw [List.take_succ_eq_append_getElem hk, List.find?_append, hn]
  simp [hx]
theorem find_take_some {α : Type} (f : α → Bool) (ps : List α) (k : Nat) (x : α) (h : ps[k]? = some x) (hn : (ps.take k).find? f = none) (hx : f x = true) : ps.find? f = some x := by
  obtain ⟨hk, rfl⟩ := List.getElem?_eq_some_iff.1 h
  have e : ps.take k ++ (ps[k] :: ps.drop (k + 1)) = ps := by rw [← List.drop_eq_getElem_cons hk, List.take_append_drop]
  have : (ps.take k ++ (ps[k] :: ps.drop (k + 1))).find? f = some ps[k] := by
    rw [List.find?_append, hn, Option.none_or, List.find?_cons_of_pos hx]
  rwa [e] at this

set_option maxRecDepth 100000 in
set_option maxHeartbeats 2000000 in
theorem rfits_pos (b o cap : Nat) (z : Nat → Int) (n : Int) (w : World) (hT : Tab w b o z) (hr : rightT z = true) (hn : 1 ≤ n) :
    Calls Try.prog 15 #[.slice (some ⟨b, o, none⟩) 32 cap, .int .i64 n] w fun e w' => e = .returned (firstV ((holesZ (keptZ z) 0).find? (wantB n))) ∧ Below w.heap.size w w' := by
  have HB := Lib.hid ((Below.refl w.heap.size w).alloc (Nat.le_refl _) (.cells #[.int .i64 0, .int .i64 0] 30))
  have HT := Lib.hid (hT.below HB.out)
  have HX := Lib.hid (Blk.new w #[.int .i64 0, .int .i64 0] 30)
  have HA := Lib.hid (fun w hT => rall_yes b o cap z w hT hr)
  have HBD := Lib.hid (holesZ_bounds (keptZ z) 32 0 (by omega))
  have hlz := holesZ_len (keptZ z) 32 0 (by omega)
  generalize holesZ (keptZ z) 0 = ps at HA HBD hlz ⊢
  clear hT hr
  have n1 : decide (1 ≤ n) = true := by simp; omega
  go_enter Try.func15, Try.ntmps15
  go_wp2_with (go_at_call 11; ((with_reducible refine (HA.out _ HT.out).mono ?_)); rintro e w1 ⟨v, rfl, hH, hb⟩; obtain ⟨p, cap', rfl⟩ := HL.slice hH; have HH := Lib.hid hH; replace HX := Lib.hid (HX.out.below' hb); replace HB := Lib.hid (bstep HB.out hb); clear hb hH)
  clear HA HT
  go_loopw [8] (fun i wr => ∃ k : Nat, k ≤ ps.length ∧ i = .int .i64 (k : Int) ∧ (ps.take k).find? (wantB n) = none ∧ Below w1.heap.size w1 wr) (fun i _ => 64 - (intOf i).toNat)
  case atStart => exact ⟨0, by omega, rfl, rfl, Below.refl _ _⟩
  case round =>
    obtain ⟨k, hk, rfl, hf, hB⟩ := hrel
    have HF := Lib.hid hf
    have HBr := Lib.hid hB
    clear hB hf
    by_cases hlt : k < ps.length
    · have hx : ps[k]? = some ps[k] := List.getElem?_eq_getElem hlt
      obtain ⟨hm1, hm2⟩ := HBD.out ps[k] (List.getElem_mem hlt)
      obtain ⟨g, g0, rfl, c0, c1⟩ := (HH.out.below HBr.out).at hx
      generalize ps[k] = x at hx hm1 hm2 c0 c1
      have HXK := Lib.hid hx
      clear hx
      have i0 : (0 : Int) ≤ (k : Int) := by omega
      have i1 : (k : Int) < (ps.length : Int) := by omega
      cases hq : wantB n x with
      | true =>
        have t1 : decide (n ≤ (x.2 : Int) - (x.1 : Int)) = true := by simp [wantB] at hq; simp; omega
        have HFIN := Lib.hid (find_take_some _ ps k x HXK.out HF.out hq)
        clear hq
        go_wp2
        have j3 : IntKind.i64.wrap ((x.2 : Int) - (x.1 : Int)) = (x.2 : Int) - (x.1 : Int) := IntWalk.i64_in _ (by omega)
        go_quiet (fail)
        clear j3
        have bX : ∀ m, Blk (wr.drewN m) w.heap.size #[.int .i64 0, .int .i64 0] 30 := fun m => HX.out.below' (below_drewN HBr.out m)
        have BX := Lib.hid bX
        clear bX
        go_wp2_with (refine wpList_store_blk rfl 30 _ _ rfl _ _ (hole2 (some x)) 30 (BX.out _) rfl rfl Try.infoHole2 rfl (hole2_one _) ?_; intro W4 bR4 bK4 hB4 hs4; have HB4 := Lib.hid ((below_drewN (bstep HB.out HBr.out) _).trans (hB4 _ (Nat.le_refl _))); clear bK4 hB4 hs4)
        have hrow := run_loadVar_row (P := Try.prog) W4 w.heap.size 30 30 _ (0, 0) _ bR4 Try.underlying30 rfl (by rw [hole2_size]; exact Try.infoHole2)
        exact bodyPost_ret (v := firstV (some x)) (res_cell_tmp rfl _ _ _ _ _ rfl rfl hrow) rfl ⟨by rw [HFIN.out], HB4.out⟩
      | false =>
        have t1 : decide (n ≤ (x.2 : Int) - (x.1 : Int)) = false := by simp [wantB] at hq; simp; omega
        have HN := Lib.hid (find_take_none _ ps k x HXK.out HF.out hq)
        clear hq
        go_wp2
        have j3 : IntKind.i64.wrap ((x.2 : Int) - (x.1 : Int)) = (x.2 : Int) - (x.1 : Int) := IntWalk.i64_in _ (by omega)
        go_quiet (fail)
        clear j3
        go_wp2
        go_roundw
        case rel => exact ⟨k + 1, by omega, by go_num, HN.out, below_drewN HBr.out _⟩
        case measure => simp [intOf]; omega
    · obtain rfl : k = ps.length := by omega
      have hfin : ps.find? (wantB n) = none := by have := HF.out; rwa [List.take_length] at this
      have HFIN := Lib.hid hfin
      clear hfin
      have bX := HX.out.below' HBr.out
      go_wp2_with (refine wpList_store_blk rfl 30 _ _ rfl _ _ (hole2 none) 30 bX rfl rfl Try.infoHole2 rfl (hole2_one _) ?_; intro W4 bR4 bK4 hB4 hs4; have HB4 := Lib.hid ((bstep HB.out HBr.out).trans (hB4 _ (Nat.le_refl _))); clear bK4 hB4 hs4)
      have hrow := run_loadVar_row (P := Try.prog) W4 w.heap.size 30 30 _ (0, 0) _ bR4 Try.underlying30 rfl (by rw [hole2_size]; exact Try.infoHole2)
      exact bodyPost_ret (v := firstV none) (res_cell_tmp rfl _ _ _ _ _ rfl rfl hrow) rfl ⟨by rw [HFIN.out], HB4.out⟩
set_option maxRecDepth 100000 in
set_option maxHeartbeats 2000000 in
theorem rfits_low (b o cap : Nat) (z : Nat → Int) (n : Int) (w : World) (hT : Tab w b o z) (hr : rightT z = true) (hn : n < 1) :
    Calls Try.prog 15 #[.slice (some ⟨b, o, none⟩) 32 cap, .int .i64 n] w fun e w' => e = .returned (firstV none) ∧ Below w.heap.size w w' := by
  have HB := Lib.hid ((Below.refl w.heap.size w).alloc (Nat.le_refl _) (.cells #[.int .i64 0, .int .i64 0] 30))
  have HT := Lib.hid (hT.below HB.out)
  have HX := Lib.hid (Blk.new w #[.int .i64 0, .int .i64 0] 30)
  have HA := Lib.hid (fun w hT => rall_yes b o cap z w hT hr)
  have HBD := Lib.hid (holesZ_bounds (keptZ z) 32 0 (by omega))
  have hlz := holesZ_len (keptZ z) 32 0 (by omega)
  generalize holesZ (keptZ z) 0 = ps at HA HBD hlz
  clear hT hr
  have n1 : decide (1 ≤ n) = false := by simp; omega
  go_enter Try.func15, Try.ntmps15
  go_wp2_with (go_at_call 11; ((with_reducible refine (HA.out _ HT.out).mono ?_)); rintro e w1 ⟨v, rfl, hH, hb⟩; obtain ⟨p, cap', rfl⟩ := HL.slice hH; have HH := Lib.hid hH; replace HX := Lib.hid (HX.out.below' hb); replace HB := Lib.hid (bstep HB.out hb); clear hb hH)
  clear HA HT
  go_loopw [8] (fun i wr => ∃ k : Nat, k ≤ ps.length ∧ i = .int .i64 (k : Int) ∧ Below w1.heap.size w1 wr) (fun i _ => 64 - (intOf i).toNat)
  case atStart => exact ⟨0, by omega, rfl, Below.refl _ _⟩
  case round =>
    obtain ⟨k, hk, rfl, hB⟩ := hrel
    have HBr := Lib.hid hB
    clear hB
    by_cases hlt : k < ps.length
    · have hx : ps[k]? = some ps[k] := List.getElem?_eq_getElem hlt
      obtain ⟨hm1, hm2⟩ := HBD.out ps[k] (List.getElem_mem hlt)
      obtain ⟨g, g0, rfl, c0, c1⟩ := (HH.out.below HBr.out).at hx
      generalize ps[k] = x at hx hm1 hm2 c0 c1
      clear hx
      have i0 : (0 : Int) ≤ (k : Int) := by omega
      have i1 : (k : Int) < (ps.length : Int) := by omega
      go_wp2
      go_quiet (fail)
      go_wp2
      go_roundw
      case rel => exact ⟨k + 1, by omega, by go_num, below_drewN HBr.out _⟩
      case measure => simp [intOf]; omega
    · obtain rfl : k = ps.length := by omega
      have bX := HX.out.below' HBr.out
      go_wp2_with (refine wpList_store_blk rfl 30 _ _ rfl _ _ (hole2 none) 30 bX rfl rfl Try.infoHole2 rfl (hole2_one _) ?_; intro W4 bR4 bK4 hB4 hs4; have HB4 := Lib.hid ((bstep HB.out HBr.out).trans (hB4 _ (Nat.le_refl _))); clear bK4 hB4 hs4)
      have hrow := run_loadVar_row (P := Try.prog) W4 w.heap.size 30 30 _ (0, 0) _ bR4 Try.underlying30 rfl (by rw [hole2_size]; exact Try.infoHole2)
      exact bodyPost_ret (v := firstV none) (res_cell_tmp rfl _ _ _ _ _ rfl rfl hrow) rfl ⟨rfl, HB4.out⟩
theorem rfits_yes (b o cap : Nat) (z : Nat → Int) (n : Int) (w : World) (hT : Tab w b o z) (hr : rightT z = true) :
    Calls Try.prog 15 #[.slice (some ⟨b, o, none⟩) 32 cap, .int .i64 n] w fun e w' => e = .returned (firstV (fitO (keptZ z) n)) ∧ Below w.heap.size w w' := by
  unfold fitO
  by_cases h : 1 ≤ n
  · rw [if_pos h]; exact rfits_pos b o cap z n w hT hr h
  · rw [if_neg h]; exact rfits_low b o cap z n w hT hr (by omega)
set_option maxRecDepth 100000 in
set_option maxHeartbeats 2000000 in
theorem rfits_no (p : Option Addr) (n cap : Nat) (m : Int) (w : World) (hI : IC w p n) (hn : n ≤ 34) (hA : NoTab w (.slice p n cap)) :
    Calls Try.prog 15 #[.slice p n cap, .int .i64 m] w fun e w' => e = .returned (firstV none) ∧ Below w.heap.size w w' := by
  have HB := Lib.hid ((Below.refl w.heap.size w).alloc (Nat.le_refl _) (.cells #[.int .i64 0, .int .i64 0] 30))
  have HX := Lib.hid (Blk.new w #[.int .i64 0, .int .i64 0] 30)
  have HRT := Lib.hid (rall_no p n cap _ (hI.below HB.out) hn (hA.below HB.out))
  clear hI hA
  go_enter Try.func15, Try.ntmps15
  go_wp2_with (go_at_call 11; ((with_reducible refine HRT.out.mono ?_)); rintro e w' ⟨rfl, rfl⟩)
  refine wp_loop_rounds 1 ?_
  rw [rounds_succ]
  go_wp2_with (refine wpList_store_blk rfl 30 _ _ rfl _ _ (hole2 none) 30 HX.out rfl rfl Try.infoHole2 rfl (hole2_one _) ?_; intro W4 bR4 bK4 hB4 hs4; have HB4 := Lib.hid (HB.out.trans (hB4 _ (Nat.le_refl _))); clear bK4 hB4 hs4)
  have hrow := run_loadVar_row (P := Try.prog) W4 w.heap.size 30 30 _ (0, 0) _ bR4 Try.underlying30 rfl (by rw [hole2_size]; exact Try.infoHole2)
  exact bodyPost_ret (v := firstV none) (res_cell_tmp rfl _ _ _ _ _ rfl rfl hrow) rfl ⟨rfl, HB4.out⟩

set_option maxRecDepth 100000 in
set_option maxHeartbeats 2000000 in
theorem rlongest_yes (b o cap : Nat) (z : Nat → Int) (w : World) (hT : Tab w b o z) (hr : rightT z = true) :
    Calls Try.prog 22 #[.slice (some ⟨b, o, none⟩) 32 cap] w fun e w' => e = .returned (.int .i64 (maxH (holesZ (keptZ z) 0) : Int)) ∧ Below w.heap.size w w' := by
  have HT := Lib.hid hT
  have HA := Lib.hid (fun w hT => rall_yes b o cap z w hT hr)
  have HBD := Lib.hid (holesZ_bounds (keptZ z) 32 0 (by omega))
  have hlz := holesZ_len (keptZ z) 32 0 (by omega)
  generalize holesZ (keptZ z) 0 = ps at HA HBD hlz ⊢
  clear hT hr
  go_enter Try.func22, Try.ntmps22
  go_wp2_with (go_at_call 11; ((with_reducible refine (HA.out _ HT.out).mono ?_)); rintro e w1 ⟨v, rfl, hH, hb⟩; obtain ⟨p, cap', rfl⟩ := HL.slice hH; have HH := Lib.hid hH; have HB := Lib.hid hb; clear hb hH)
  clear HA HT
  go_loopw [5, 6] (fun s i wr => ∃ k : Nat, k ≤ ps.length ∧ i = .int .i64 (k : Int) ∧ s = .int .i64 (maxH (ps.take k) : Int) ∧ Below w1.heap.size w1 wr) (fun _ i _ => 64 - (intOf i).toNat)
  case atStart => exact ⟨0, by omega, rfl, rfl, Below.refl _ _⟩
  case round =>
    obtain ⟨k, hk, rfl, rfl, hB⟩ := hrel
    have HBr := Lib.hid hB
    clear hB
    by_cases hlt : k < ps.length
    · have hx : ps[k]? = some ps[k] := List.getElem?_eq_getElem hlt
      obtain ⟨hm1, hm2⟩ := HBD.out ps[k] (List.getElem_mem hlt)
      obtain ⟨g, g0, rfl, c0, c1⟩ := (HH.out.below HBr.out).at hx
      have hmx : maxH (ps.take (k + 1)) = max (maxH (ps.take k)) ((ps[k]).2 - (ps[k]).1) := by
        rw [List.take_succ_eq_append_getElem hlt]; unfold maxH; rw [List.foldl_append]; rfl
      have hm32 : maxH (ps.take k) ≤ 32 := foldmax_le _ (fun p hp => by have := HBD.out p (List.mem_of_mem_take hp); omega) 0 (by omega)
      generalize ps[k] = x at hx hm1 hm2 c0 c1 hmx
      generalize maxH (ps.take k) = s at hmx hm32 ⊢
      have HM := Lib.hid hmx
      clear hx hmx
      have i0 : (0 : Int) ≤ (k : Int) := by omega
      have i1 : (k : Int) < (ps.length : Int) := by omega
      go_wp2
      have j3 : IntKind.i64.wrap ((x.2 : Int) - (x.1 : Int)) = (x.2 : Int) - (x.1 : Int) := IntWalk.i64_in _ (by omega)
      by_cases hc : (s : Int) ≤ (x.2 : Int) - (x.1 : Int)
      · have hcn : s ≤ x.2 - x.1 := by omega
        rw [Nat.max_eq_right hcn] at HM
        clear hcn
        go_region
        all_goals clear j3
        all_goals go_wp2
        all_goals go_roundw
        all_goals (try (case rel => exact ⟨k + 1, by omega, by go_num, congrArg (Value.int .i64) (by rw [HM.out]; omega), HBr.out.drew⟩))
        all_goals (simp [intOf]; omega)
      · have hcn : x.2 - x.1 ≤ s := by omega
        rw [Nat.max_eq_left hcn] at HM
        have hc' : (x.2 : Int) - (x.1 : Int) < (s : Int) := by omega
        clear hcn hc
        go_region
        all_goals clear j3
        all_goals go_wp2
        all_goals go_roundw
        all_goals (try (case rel => exact ⟨k + 1, by omega, by go_num, congrArg (Value.int .i64) (by rw [HM.out]; first | rfl | (rw [if_neg (by omega)])), HBr.out.drew⟩))
        all_goals (simp [intOf]; omega)
    · obtain rfl : k = ps.length := by omega
      rw [List.take_length]
      go_wp2
      go_ret
      exact ⟨rfl, bstep HB.out HBr.out⟩
theorem rlongest_no (p : Option Addr) (n cap : Nat) (w : World) (hI : IC w p n) (hn : n ≤ 34) (hA : NoTab w (.slice p n cap)) :
    Calls Try.prog 22 #[.slice p n cap] w fun e w' => e = .returned (.int .i64 0) ∧ Below w.heap.size w w' := by
  have HRT := Lib.hid (rall_no p n cap _ hI hn hA)
  clear hI hA
  go_enter Try.func22, Try.ntmps22
  go_wp2_with (go_at_call 11; ((with_reducible refine HRT.out.mono ?_)); rintro e w' ⟨rfl, rfl⟩)
  refine wp_loop_rounds 1 ?_
  rw [rounds_succ]
  go_wp2
  go_ret
  exact ⟨rfl, Below.refl _ _⟩
end Go.Proofs.Ytgjhdjfjfmbejaa
