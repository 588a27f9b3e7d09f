/-
  marks.lines goes through the lines from one to another one; marks.Right tells whether a list of 32 numbers is a table; what lay in memory stays.
-/
import Derived.Test.YtanccoahpcfbnaaDoorChecked
import Derived.Test.YtanccoahpcfbnaaDoorGen
import Derived.WalkKit
import Derived.Lib.Hide
import Derived.Outline
import Derived.LoopTactic
import Derived.Shelf.Abstract
import Derived.Shelf.RegionOpen
import Derived.OwnWalkIn
import Derived.TacticsInMore
import Derived.LoopNIn
import Derived.LoopIn
import Derived.Laws.Rows
namespace Go.Proofs.YtanccoahpcfbnaaDoor
open Go.RowKit Go.Lib Go.Shelf
attribute [local go_sem] Oper.semAt_some

abbrev encF (x : Fin 32) : Array Value := #[.int .i64 ((x.val : Nat) : Int)]
/-- k lines from line f on. -/
def seg (f k : Nat) : List (Fin 32) := (List.range k).map fun i => Fin.ofNat 32 (f + i)
theorem seg_succ (f k : Nat) : seg f (k + 1) = seg f k ++ [Fin.ofNat 32 (f + k)] := by simp [seg, List.range_succ]
theorem seg_len (f k : Nat) : (seg f k).length = k := by simp [seg]
theorem seg_pre (f k m : Nat) (h : k ≤ m) : seg f k <+: seg f m := by
  unfold seg
  refine List.IsPrefix.map _ ?_
  exact ⟨List.range' k (m - k), by rw [List.range_eq_range', List.range_eq_range']; have := List.range'_append_1 (s := 0) (m := k) (n := m - k); rw [Nat.zero_add] at this; rw [this]; congr 1; omega⟩
theorem fin_val (m : Nat) (h : m < 32) : (Fin.ofNat 32 m).val = m := Nat.mod_eq_of_lt h

theorem lines_any (f l : Int) (w : World) : Calls Tryd.prog 54 #[.int .i64 f, .int .i64 l] w fun e w' =>
    e = .returned (.func (.func 63) #[] #[.pointer (some ⟨w.heap.size, 0, none⟩), .pointer (some ⟨w.heap.size + 1, 0, none⟩)]) ∧ w' = (w.alloc (.cells #[.int .i64 f] 3)).alloc (.cells #[.int .i64 l] 3) := by
  go_enter Tryd.func54, Tryd.ntmps54
  go_wp2
  go_ret
  exact ⟨rfl, rfl⟩

set_option maxHeartbeats 1000000 in
/-- The lines from f up to e, without e, one by one. -/
theorem lines1_stops (n : Nat) (hn : 1 ≤ n) (B C f e : Nat) (la : Int) (hf : f ≤ e) (he : e ≤ 32) (h1 : la < e) (h2 : e ≤ la + 1) (w : World) (hB : w.cell? ⟨B, 0, none⟩ = some (.int .i64 f)) (hC : w.cell? ⟨C, 0, none⟩ = some (.int .i64 la)) :
    SeqStopsK Fence.wide n Tryd.prog 63 #[.pointer (some ⟨B, 0, none⟩), .pointer (some ⟨C, 0, none⟩)] encF (KS [C]) (fun xs => xs = seg f (e - f)) (fun pre => pre <+: seg f (e - f)) (e - f) w := fun l J Jx W hW hJ hJx hY h0 => by
  have hB' := cell_below hB hW
  have hC' := cell_below hC hW
  have HY := Lib.hid hY
  clear hB hC hW hJ hJx hY
  refine callsIn_of_wp Tryd.func63 rfl trivial ?_ rfl
  simp only [Tryd.ntmps63, List.size_toArray, List.length_cons, List.length_nil, Nat.reduceAdd, Nat.reduceSub, Array.replicate_succ, Array.replicate_zero, List.push_toArray, List.append_toArray, List.nil_append, List.cons_append]
  gi_wp2
  gi_loopw [4] (fun i wr => ∃ m : Nat, f ≤ m ∧ m ≤ e ∧ i = .int .i64 (m : Int) ∧ J (seg f (m - f)) wr ∧ wr.cell? ⟨C, 0, none⟩ = some (.int .i64 la)) (fun i _ => 64 - (intOf i).toNat)
  case atStart => exact ⟨f, Nat.le_refl _, hf, rfl, by rw [Nat.sub_self]; exact h0, hC'⟩
  case round =>
    obtain ⟨m, hm, hm', rfl, hJs, hc⟩ := hrel
    clear hB' hC' h0
    by_cases hlt : m < e
    · obtain ⟨fn, tmps, assign, body, hy, hR⟩ := HY.out (seg f (m - f)) (Fin.ofNat 32 m) wr hJs (by rw [seg_len]; omega)
      dsimp only [encF] at hy
      rw [fin_val _ (by omega)] at hy
      have hs : seg f (m - f) ++ [Fin.ofNat 32 m] = seg f (m + 1 - f) := by rw [show m + 1 - f = (m - f) + 1 by omega, seg_succ, show f + (m - f) = m by omega]
      have HS := Lib.hid hs
      clear hs
      gi_wp2
      refine hR.mono ?_
      rintro ee W3 (⟨rfl, hJ3, hk3⟩ | ⟨rfl, hJx3⟩)
      · have hc3 := hk3.cell (a := ⟨C, 0, none⟩) (by simp) hc
        rw [HS.out] at hJ3
        clear hy hR hc hJs hk3
        gi_wp2
        go_roundw
        case rel => exact ⟨m + 1, by omega, by omega, by go_num, hJ3, hc3⟩
        case measure => simp [intOf]; omega
      · rw [HS.out] at hJx3
        gi_wp2
        refine bodyPost_ret (results_none rfl _ _ _) rfl ?_
        exact ⟨⟨_, rfl⟩, .inr ⟨_, seg_pre f _ _ (by omega), hJx3⟩⟩
    · have hd : decide ((m : Int) ≤ la) = false := by simp; omega
      obtain rfl : m = e := by omega
      gi_wp2
      go_end0
      exact ⟨⟨_, rfl⟩, .inl ⟨_, rfl, hJs⟩⟩
end Go.Proofs.YtanccoahpcfbnaaDoor
