/-
  A head's numbers, one by one.
-/
import Derived.Test.YtmikkbhillkpkaaDoorHdA
import Derived.Test.YtmikkbhillkpkaaDoorRng
import Derived.Test.YtmikkbhillkpkaaDoorGenC
import Derived.Test.YtmikkbhillkpkaaDoorRowKit
import Derived.OwnWalkIn
import Derived.TacticsInMore
import Derived.LoopNIn
import Derived.LoopIn
import Derived.Laws.Rows
import Derived.WalkSpells
import Derived.BigRegionIn
namespace Go.Proofs.YtmikkbhillkpkaaDoor
open Go.RowKit Go.Lib Go.Shelf
attribute [local go_sem] Oper.semAt_some
set_option linter.unusedSimpArgs false
set_option linter.unusedVariables false

/-- The number of a head in a field. -/
abbrev num (m : Mk) : Nat → Int
  | 0 => m.k
  | 1 => m.c
  | 2 => m.e
  | _ => m.l
def CD : TypeId := 61
abbrev numA (m : Mk) : Array Value := #[.int .i64 m.k, .int .i64 m.c, .int .i64 m.e, .int .i64 m.l]
theorem hnumbers_any (m : Mk) (w : World) : Calls Tryd.prog 34 #[.agg (mkA m)] w fun e w' =>
    e = .returned (.func (.func 48) #[] #[.pointer (some ⟨w.heap.size, 0, none⟩)]) ∧ w.alloc (.cells (mkA m) 61) = w' := by
  go_enter Tryd.func34, Tryd.ntmps34
  go_wp2
  go_ret
  exact ⟨rfl, rfl⟩
/-- Blocks that a loop's caller must leave alone. -/
def Kp (t : TypeId) (W W' : World) : Prop := ∀ b cs, Blk W b cs t → Blk W' b cs t
theorem Kp.refl {t : TypeId} (W : World) : Kp t W W := fun _ _ h => h
theorem Kp.trans {t : TypeId} {A B C : World} (h : Kp t A B) (k : Kp t B C) : Kp t A C := fun b cs x => k b cs (h b cs x)
theorem Kp.below {t : TypeId} {W W' : World} (h : Below W.heap.size W W') : Kp t W W' := fun _ _ x => x.below' h
theorem Kp.putObj {t : TypeId} {W : World} {D : Nat} {o : Obj} (o' : Obj) (hD : W.heap[D]? = some o) (ho : o.isCells = false) : Kp t W (W.putObj D o') := fun _ _ x => blk_putObj o' x hD ho
theorem Kp.set {t u : TypeId} {W : World} {B k : Nat} {v : Value} {cs : Array Value} (hB : Blk W B cs u) (hne : u ≠ t) : Kp t W (W.setCell ⟨B, k, none⟩ v) := fun b ds x => x.other (fun e => by
  subst e
  have h1 : W.heap[b]? = some (.cells cs u (0, 0)) := hB
  rw [show W.heap[b]? = some (.cells ds t (0, 0)) from x] at h1
  simp at h1
  exact hne h1.2.symm) k v

/-- How a round may end: it goes on, or it breaks off. -/
def YP (A B : World → Prop) (e : Ending) (W : World) : Prop := ∃ b : Bool, e = .returned (.bool b) ∧ (match b with | true => A W | false => B W)
set_option maxRecDepth 100000 in
set_option maxHeartbeats 1000000 in
/-- The numbers, one by one: what the caller does at each is J. -/
theorem hnumbers1 (n : Nat) (hn : 1 ≤ n) (C l : Nat) (m : Mk) (W0 : World) (hC : Blk W0 C (mkA m) 61) (hF : W0.rangeAt 4 0 fieldsL) (J : Nat → World → Prop) (Jx : World → Prop) (hJ : J 0 W0) (hJa : ∀ k W o, J k W → J k (W.alloc o)) (hJd : ∀ k W, J k W → J k W.drew)
    (hY : ∀ k W, k < 4 → J k W → YieldAt Fence.wide (n - 1) Tryd.prog l #[.agg (fld k), .int .i64 (num m k)] W (YP (fun W' => J (k + 1) W' ∧ Kp 88 W W') Jx)) :
    CallsIn Fence.wide n Tryd.prog 48 (#[.func (.yield l) #[] #[]] ++ #[.pointer (some ⟨C, 0, none⟩)]) W0 fun e W' => (∃ v, e = .returned v) ∧ (J 4 W' ∨ Jx W') := by
  have c0 : W0.cell? ⟨C, 0, none⟩ = some (.int .i64 m.k) := hC.cell rfl
  have c1 : W0.cell? ⟨C, 1, none⟩ = some (.int .i64 m.l) := hC.cell rfl
  have c2 : W0.cell? ⟨C, 2, none⟩ = some (.int .i64 m.c) := hC.cell rfl
  have c3 : W0.cell? ⟨C, 3, none⟩ = some (.int .i64 m.e) := hC.cell rfl
  have g0 : W0.cell? ⟨4, 0, none⟩ = some (.int .i64 1) := hF 0 _ rfl
  have g1 : W0.cell? ⟨4, 1, none⟩ = some (.int .i64 1) := hF 1 _ rfl
  have g2 : W0.cell? ⟨4, 2, none⟩ = some (.int .i64 1) := hF 2 _ rfl
  have g3 : W0.cell? ⟨4, 3, none⟩ = some (.int .i64 60) := hF 3 _ rfl
  have g4 : W0.cell? ⟨4, 4, none⟩ = some (.int .i64 2) := hF 4 _ rfl
  have g5 : W0.cell? ⟨4, 5, none⟩ = some (.int .i64 1) := hF 5 _ rfl
  have g6 : W0.cell? ⟨4, 6, none⟩ = some (.int .i64 1) := hF 6 _ rfl
  have g7 : W0.cell? ⟨4, 7, none⟩ = some (.int .i64 3) := hF 7 _ rfl
  have g8 : W0.cell? ⟨4, 8, none⟩ = some (.int .i64 3) := hF 8 _ rfl
  have g9 : W0.cell? ⟨4, 9, none⟩ = some (.int .i64 1) := hF 9 _ rfl
  have g10 : W0.cell? ⟨4, 10, none⟩ = some (.int .i64 0) := hF 10 _ rfl
  have g11 : W0.cell? ⟨4, 11, none⟩ = some (.int .i64 255) := hF 11 _ rfl
  have g12 : W0.cell? ⟨4, 12, none⟩ = some (.int .i64 4) := hF 12 _ rfl
  have g13 : W0.cell? ⟨4, 13, none⟩ = some (.int .i64 3) := hF 13 _ rfl
  have g14 : W0.cell? ⟨4, 14, none⟩ = some (.int .i64 0) := hF 14 _ rfl
  have g15 : W0.cell? ⟨4, 15, none⟩ = some (.int .i64 40000) := hF 15 _ rfl
  have i0 : ∀ w, (Instr.index 89 (.agg #[.int .i64 1, .int .i64 1, .int .i64 1, .int .i64 60, .int .i64 2, .int .i64 1, .int .i64 1, .int .i64 3, .int .i64 3, .int .i64 1, .int .i64 0, .int .i64 255, .int .i64 4, .int .i64 3, .int .i64 0, .int .i64 40000]) (.int .i64 0)).run Tryd.prog w = .ok (.agg #[.int .i64 1, .int .i64 1, .int .i64 1, .int .i64 60]) w := fun _ => by kernel_rfl
  have i1 : ∀ w, (Instr.index 89 (.agg #[.int .i64 1, .int .i64 1, .int .i64 1, .int .i64 60, .int .i64 2, .int .i64 1, .int .i64 1, .int .i64 3, .int .i64 3, .int .i64 1, .int .i64 0, .int .i64 255, .int .i64 4, .int .i64 3, .int .i64 0, .int .i64 40000]) (.int .i64 1)).run Tryd.prog w = .ok (.agg #[.int .i64 2, .int .i64 1, .int .i64 1, .int .i64 3]) w := fun _ => by kernel_rfl
  have i2 : ∀ w, (Instr.index 89 (.agg #[.int .i64 1, .int .i64 1, .int .i64 1, .int .i64 60, .int .i64 2, .int .i64 1, .int .i64 1, .int .i64 3, .int .i64 3, .int .i64 1, .int .i64 0, .int .i64 255, .int .i64 4, .int .i64 3, .int .i64 0, .int .i64 40000]) (.int .i64 2)).run Tryd.prog w = .ok (.agg #[.int .i64 3, .int .i64 1, .int .i64 0, .int .i64 255]) w := fun _ => by kernel_rfl
  have i3 : ∀ w, (Instr.index 89 (.agg #[.int .i64 1, .int .i64 1, .int .i64 1, .int .i64 60, .int .i64 2, .int .i64 1, .int .i64 1, .int .i64 3, .int .i64 3, .int .i64 1, .int .i64 0, .int .i64 255, .int .i64 4, .int .i64 3, .int .i64 0, .int .i64 40000]) (.int .i64 3)).run Tryd.prog w = .ok (.agg #[.int .i64 4, .int .i64 3, .int .i64 0, .int .i64 40000]) w := fun _ => by kernel_rfl
  have gl : 4 < W0.heap.size := World.block_lt_of_cell? W0 _ g0
  have hmo : Tryd.prog.follows .mixedOrders = true := by kernel_rfl
  have HY := Lib.hid hY
  have HA := Lib.hid hJa
  have HD := Lib.hid hJd
  have HJ := Lib.hid hJ
  clear hC hF hY hJ hJa hJd
  refine callsIn_of_wp Tryd.func48 rfl trivial ?_ rfl
  simp only [Tryd.ntmps48, List.size_toArray, List.length_cons, List.length_nil, Nat.reduceAdd, Nat.reduceSub, Array.replicate_succ, Array.replicate_zero, List.push_toArray, List.append_toArray, List.nil_append, List.cons_append]
  gi_wp2
  clear gl c0 c1 c2 c3 g0 g1 g2 g3 g4 g5 g6 g7 g8 g9 g10 g11 g12 g13 g14 g15
  have bN := Blk.new W0 (numA m) 88
  have HJ1 := Lib.hid (HA.out 0 _ (.cells (numA m) 88) HJ.out)
  generalize W0.heap.size = N at bN ⊢
  generalize W0.alloc (.cells (numA m) 88) = W1 at bN HJ1 ⊢
  gi_loopw [20] (fun s20 wr => ∃ k : Nat, k ≤ 4 ∧ s20 = .int .i64 (k : Int) ∧ J k wr ∧ Blk wr N (numA m) 88) (fun s20 _ => 4 - (intOf s20).toNat)
  case atStart => exact ⟨0, by omega, rfl, HJ1.out, bN⟩
  case round =>
    obtain ⟨k, hk, rfl, hJk, hN⟩ := hrel
    clear HJ HJ1 bN
    have c0 : wr.cell? ⟨N, 0, none⟩ = some (.int .i64 m.k) := hN.cell rfl
    have c1 : wr.cell? ⟨N, 1, none⟩ = some (.int .i64 m.c) := hN.cell rfl
    have c2 : wr.cell? ⟨N, 2, none⟩ = some (.int .i64 m.e) := hN.cell rfl
    have c3 : wr.cell? ⟨N, 3, none⟩ = some (.int .i64 m.l) := hN.cell rfl
    have hNl := hN.lt
    have HN := Lib.hid hN
    have HK := Lib.hid hJk
    clear hN hJk
    rcases (by omega : k = 0 ∨ k = 1 ∨ k = 2 ∨ k = 3 ∨ k = 4) with rfl | rfl | rfl | rfl | rfl
    · gi_wp2
      obtain ⟨fn, tmps, assign, body, hy, hR⟩ := HY.out 0 _ (by omega) (HD.out 0 _ (HA.out 0 _ (.cells (fld 0) 70) HK.out))
      have HN2 := Lib.hid (HN.out.alloc (.cells (fld 0) 70)).drew
      dsimp only [fld, num] at hy HN2
      gi_region_with_o (first | (refine hR.mono ?_; rintro ee W3 ⟨b, rfl, hb⟩; have HBB := Lib.hid hb; clear hb))
      all_goals
        clear hy hR HK c0 c1 c2 c3
        cases b
        · have HX := Lib.hid (show Jx W3 from HBB.out)
          clear HBB
          gi_wp2
          try rw [Exit.noGoto_ret]
          refine bodyPost_ret (results_none rfl _ _ _) rfl ?_
          exact ⟨⟨_, rfl⟩, .inr HX.out⟩
        · have HX := Lib.hid (show J (0 + 1) W3 ∧ Kp 88 _ W3 from HBB.out)
          clear HBB
          gi_wp2
          go_roundw
          case rel => exact ⟨0 + 1, by omega, by go_num, HX.out.1, HX.out.2 _ _ HN2.out⟩
          case measure => simp [intOf]
    · gi_wp2
      obtain ⟨fn, tmps, assign, body, hy, hR⟩ := HY.out 1 _ (by omega) (HD.out 1 _ (HA.out 1 _ (.cells (fld 1) 70) HK.out))
      have HN2 := Lib.hid (HN.out.alloc (.cells (fld 1) 70)).drew
      dsimp only [fld, num] at hy HN2
      gi_region_with_o (first | (refine hR.mono ?_; rintro ee W3 ⟨b, rfl, hb⟩; have HBB := Lib.hid hb; clear hb))
      all_goals
        clear hy hR HK c0 c1 c2 c3
        cases b
        · have HX := Lib.hid (show Jx W3 from HBB.out)
          clear HBB
          gi_wp2
          try rw [Exit.noGoto_ret]
          refine bodyPost_ret (results_none rfl _ _ _) rfl ?_
          exact ⟨⟨_, rfl⟩, .inr HX.out⟩
        · have HX := Lib.hid (show J (1 + 1) W3 ∧ Kp 88 _ W3 from HBB.out)
          clear HBB
          gi_wp2
          go_roundw
          case rel => exact ⟨1 + 1, by omega, by go_num, HX.out.1, HX.out.2 _ _ HN2.out⟩
          case measure => simp [intOf]
    · gi_wp2
      obtain ⟨fn, tmps, assign, body, hy, hR⟩ := HY.out 2 _ (by omega) (HD.out 2 _ (HA.out 2 _ (.cells (fld 2) 70) HK.out))
      have HN2 := Lib.hid (HN.out.alloc (.cells (fld 2) 70)).drew
      dsimp only [fld, num] at hy HN2
      gi_region_with_o (first | (refine hR.mono ?_; rintro ee W3 ⟨b, rfl, hb⟩; have HBB := Lib.hid hb; clear hb))
      all_goals
        clear hy hR HK c0 c1 c2 c3
        cases b
        · have HX := Lib.hid (show Jx W3 from HBB.out)
          clear HBB
          gi_wp2
          try rw [Exit.noGoto_ret]
          refine bodyPost_ret (results_none rfl _ _ _) rfl ?_
          exact ⟨⟨_, rfl⟩, .inr HX.out⟩
        · have HX := Lib.hid (show J (2 + 1) W3 ∧ Kp 88 _ W3 from HBB.out)
          clear HBB
          gi_wp2
          go_roundw
          case rel => exact ⟨2 + 1, by omega, by go_num, HX.out.1, HX.out.2 _ _ HN2.out⟩
          case measure => simp [intOf]
    · gi_wp2
      obtain ⟨fn, tmps, assign, body, hy, hR⟩ := HY.out 3 _ (by omega) (HD.out 3 _ (HA.out 3 _ (.cells (fld 3) 70) HK.out))
      have HN2 := Lib.hid (HN.out.alloc (.cells (fld 3) 70)).drew
      dsimp only [fld, num] at hy HN2
      gi_region_with_o (first | (refine hR.mono ?_; rintro ee W3 ⟨b, rfl, hb⟩; have HBB := Lib.hid hb; clear hb))
      all_goals
        clear hy hR HK c0 c1 c2 c3
        cases b
        · have HX := Lib.hid (show Jx W3 from HBB.out)
          clear HBB
          gi_wp2
          try rw [Exit.noGoto_ret]
          refine bodyPost_ret (results_none rfl _ _ _) rfl ?_
          exact ⟨⟨_, rfl⟩, .inr HX.out⟩
        · have HX := Lib.hid (show J (3 + 1) W3 ∧ Kp 88 _ W3 from HBB.out)
          clear HBB
          gi_wp2
          go_roundw
          case rel => exact ⟨3 + 1, by omega, by go_num, HX.out.1, HX.out.2 _ _ HN2.out⟩
          case measure => simp [intOf]
    · gi_wp2
      go_end0
      exact ⟨⟨_, rfl⟩, .inl HK.out⟩
end Go.Proofs.YtmikkbhillkpkaaDoor
