/-
  arena: the way through some bytes.
-/
import Derived.Test.YtmikkbhillkpkaaDoorArF
import Derived.Test.YtmikkbhillkpkaaDoorGenC
import Derived.WalkKit
import Derived.Outline
import Derived.LoopTactic
import Derived.Shelf.Abstract
import Derived.Shelf.RegionOpen
import Derived.OwnWalkIn
import Derived.TacticsInMore
import Derived.LoopNIn
import Derived.LoopIn
import Derived.Laws.Rows
namespace Go.Proofs.YtmikkbhillkpkaaDoor
open Go.RowKit Go.Lib Go.Shelf
attribute [local go_sem] Oper.semAt_some

abbrev encP (f k : Nat) (x : Nat × UInt8) : Array Value := #[.int .i64 ((f + x.1 % k : Nat) : Int), .int .u8 (x.2.toNat : Int)]
/-- k bytes from place f on, each with its place among them. -/
def bseg (bs : List UInt8) (f k : Nat) : List (Nat × UInt8) := (List.range k).map fun i => (i, bs.getD (f + i) 0)
theorem bseg_succ (bs : List UInt8) (f k : Nat) : bseg bs f (k + 1) = bseg bs f k ++ [(k, bs.getD (f + k) 0)] := by simp [bseg, List.range_succ]
theorem bseg_len (bs : List UInt8) (f k : Nat) : (bseg bs f k).length = k := by simp [bseg]
theorem bseg_pre (bs : List UInt8) (f k m : Nat) (h : k ≤ m) : bseg bs f k <+: bseg bs f m := by
  unfold bseg
  refine List.IsPrefix.map _ ?_
  exact ⟨List.range' k (m - k), by rw [List.range_eq_range', List.range_eq_range']; have := List.range'_append_1 (s := 0) (m := k) (n := m - k); rw [Nat.zero_add] at this; rw [this]; congr 1; omega⟩

theorem byteCells_getD (bs : List UInt8) (j : Nat) (h : j < bs.length) : (byteCells bs).toArray[j]? = some (.int .u8 ((bs.getD j 0).toNat : Int)) := by
  rw [List.getElem?_toArray, byteCells_get, List.getElem?_eq_getElem h]
  simp [List.getD, h]
theorem each_any (a : Addr) (f k : Int) (w : World) : Calls Tryd.prog 42 #[.pointer (some a), .int .i64 f, .int .i64 k] w fun e w' =>
    e = .returned (.func (.func 54) #[] #[.pointer (some ⟨w.heap.size, 0, none⟩), .pointer (some ⟨w.heap.size + 1, 0, none⟩), .pointer (some ⟨w.heap.size + 1 + 1, 0, none⟩)]) ∧ w' = ((w.alloc (.cells #[.pointer (some a)] 99)).alloc (.cells #[.int .i64 f] 3)).alloc (.cells #[.int .i64 k] 3) := by
  go_enter Tryd.func42, Tryd.ntmps42
  go_wp2
  go_ret
  exact ⟨rfl, rfl⟩

set_option maxRecDepth 100000 in
set_option maxHeartbeats 1000000 in
theorem each1_stops (n : Nat) (hn : 1 ≤ n) (B C D p g f k : Nat) (bs : List UInt8) (w : World) (hA : Ar w p g bs) (hB : w.cell? ⟨B, 0, none⟩ = some (.pointer (some ⟨p, 0, none⟩))) (hC : w.cell? ⟨C, 0, none⟩ = some (.int .i64 f)) (hD : w.cell? ⟨D, 0, none⟩ = some (.int .i64 k)) (hf : f < bs.length) (hk : f + k ≤ bs.length) :
    SeqStopsK Fence.wide n Tryd.prog 54 #[.pointer (some ⟨B, 0, none⟩), .pointer (some ⟨C, 0, none⟩), .pointer (some ⟨D, 0, none⟩)] (encP f k) (KS [C, g]) (fun xs => xs = bseg bs f k) (fun pre => pre <+: bseg bs f k) k w := fun l J Jx W hW hJ hJx hY h0 => by
  have hB' := cell_below hB hW
  have hC' := cell_below hC hW
  have hD' := cell_below hD hW
  have hA' := hA.below hW
  have hln := hA.len
  have cp : W.cell? ⟨p, 0, none⟩ = some (.slice (some ⟨g, 0, none⟩) bs.length bs.length) := hA'.hp.cell rfl
  have hc := run_cut g f k bs.length hk
  rw [cutv_in _ _ _ _ hf] at hc
  have HY := Lib.hid hY
  have HG := Lib.hid hA'.hg
  have e0 : IntKind.i64.wrap ((f : Int) + (k : Int)) = (f : Int) + (k : Int) := IntWalk.i64_in _ (by omega)
  have H0 : Hid (∀ m, J [] (W.drewN m)) := Lib.hid (fun m => hJ [] W _ none h0 ⟨rfl, rfl, rfl, Nat.le_refl _, fun _ _ _ => rfl⟩ (fun _ e => by cases e))
  clear hB hC hD hW hJ hJx hY hA hA' h0
  refine callsIn_of_wp Tryd.func54 rfl trivial ?_ rfl
  simp only [Tryd.ntmps54, List.size_toArray, List.length_cons, List.length_nil, Nat.reduceAdd, Nat.reduceSub, Array.replicate_succ, Array.replicate_zero, List.push_toArray, List.append_toArray, List.nil_append, List.cons_append]
  refine wpIn_wide.2 ?_
  go_wp2
  go_quiet (fail)
  go_wp2_with fail
  refine (wpIn_wide (n := n)).1 ?_
  have cC0 : (W.drewN nq).cell? ⟨C, 0, none⟩ = some (.int .i64 f) := hC'
  have HG0 : Hid (Blk (W.drewN nq) g (byteCells bs).toArray 5) := Lib.hid HG.out
  have H1 := Lib.hid (H0.out nq)
  clear hB' hC' hD' cp HG H0 hc e0
  generalize W.drewN nq = W0 at *
  gi_wp2_with fail
  gi_loopw [17] (fun i wr => ∃ m : Nat, m ≤ k ∧ i = .int .i64 (m : Int) ∧ J (bseg bs f m) wr ∧ wr.cell? ⟨C, 0, none⟩ = some (.int .i64 (f : Int)) ∧ Blk wr g (byteCells bs).toArray 5) (fun i _ => k - (intOf i).toNat)
  case atStart => exact ⟨0, by omega, rfl, H1.out, cC0, HG0.out⟩
  case round =>
    obtain ⟨m, hm, rfl, hJs, hc, hg⟩ := hrel
    clear cC0 HG0 H1
    have i0 : (0 : Int) ≤ (m : Int) := by omega
    by_cases hlt : m < k
    · have i1 : (m : Int) < (k : Int) := by omega
      obtain ⟨fn, tmps, assign, body, hy, hR⟩ := HY.out (bseg bs f m) (m, bs.getD (f + m) 0) wr hJs (by rw [bseg_len]; omega)
      dsimp only [encP] at hy
      rw [Nat.mod_eq_of_lt hlt] at hy
      have hcg : wr.cell? ⟨g, f + m, none⟩ = some (.int .u8 ((bs.getD (f + m) 0).toNat : Int)) := hg.cell (byteCells_getD bs _ (by omega))
      have hs := bseg_succ bs f m
      have HS := Lib.hid hs
      have e1 : IntKind.i64.wrap ((f : Int) + (m : Int)) = (f : Int) + (m : Int) := IntWalk.i64_in _ (by omega)
      rw [show ((f + m : Nat) : Int) = (f : Int) + (m : Int) by omega] at hy
      have hHG := Lib.hid hg
      clear hs hg
      generalize bs.getD (f + m) 0 = x at hy hR hcg HS
      gi_wp2
      refine hR.mono ?_
      rintro ee W3 (⟨rfl, hJ3, hk3⟩ | ⟨rfl, hJx3⟩)
      · have hc3 := hk3.cell (a := ⟨C, 0, none⟩) (by simp) hc
        have hg3 := hk3.blk (by simp) hHG.out
        rw [← HS.out] at hJ3
        clear hy hR hc hJs hk3 hcg hHG
        gi_wp2
        go_roundw
        case rel => exact ⟨m + 1, by omega, by go_num, hJ3, hc3, hg3⟩
        case measure => simp [intOf]; omega
      · rw [← HS.out] at hJx3
        gi_wp2
        refine bodyPost_ret (results_none rfl _ _ _) rfl ?_
        exact ⟨⟨_, rfl⟩, .inr ⟨_, bseg_pre bs f _ _ (by omega), hJx3⟩⟩
    · obtain rfl : m = k := by omega
      gi_wp2
      go_end0
      exact ⟨⟨_, rfl⟩, .inl ⟨_, rfl, hJs⟩⟩
end Go.Proofs.YtmikkbhillkpkaaDoor
