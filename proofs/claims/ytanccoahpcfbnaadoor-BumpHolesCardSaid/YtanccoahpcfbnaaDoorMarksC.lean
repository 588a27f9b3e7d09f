/-
  marks.table.kept and marks.table.all: which lines of a table are kept, and the way through them; what lay in memory stays.
-/
import Derived.Test.YtanccoahpcfbnaaDoorMarksB
namespace Go.Proofs.YtanccoahpcfbnaaDoor
open Go.RowKit Go.Lib Go.Shelf
attribute [local go_sem] Oper.semAt_some

/-- Is line i kept? -/
def keptZ (z : Nat → Int) (i : Nat) : Bool := decide (z i ≠ 0 ∨ (0 < i ∧ z (i - 1) = 2))

theorem kept_any (b o cap : Nat) (z : Nat → Int) (w : World) (hT : Tab w b o z) (i : Nat) (hi : i < 32) :
    Calls Tryd.prog 42 #[.slice (some ⟨b, o, none⟩) 32 cap, .int .i64 (i : Int)] w fun e w' => e = .returned (.bool (keptZ z i)) ∧ w = w' := by
  have ci := hT i hi
  by_cases h0 : z i = 0
  · have e0 : (z i != 0) = false := by simpa using h0
    by_cases hi0 : i = 0
    · subst hi0
      have hr : keptZ z 0 = false := by simp [keptZ, h0]
      rw [hr]
      have c0 : w.cell? ⟨b, o, none⟩ = some (.int .i64 (z 0)) := ci
      clear hr h0 hT ci
      rw [show ((0 : Nat) : Int) = 0 from rfl]
      go_enter Tryd.func42, Tryd.ntmps42
      go_wp2
      go_ret
      exact ⟨rfl, rfl⟩
    · have cj := hT (i - 1) (by omega)
      have hp : 0 < i := by omega
      by_cases h2 : z (i - 1) = 2
      · have hr : keptZ z i = true := by simp [keptZ, h2, hp]
        have e2 : (z (i - 1) == 2) = true := by simpa using h2
        rw [hr]
        clear hr h0 hT h2 hi0
        go_enter Tryd.func42, Tryd.ntmps42
        go_wp2
        go_ret
        exact ⟨rfl, rfl⟩
      · have hr : keptZ z i = false := by simp [keptZ, h0, h2]
        have e2 : (z (i - 1) == 2) = false := by simpa using h2
        rw [hr]
        clear hr h0 hT h2 hi0
        go_enter Tryd.func42, Tryd.ntmps42
        go_wp2
        go_ret
        exact ⟨rfl, rfl⟩
  · have hr : keptZ z i = true := by simp [keptZ, h0]
    have e0 : (z i != 0) = true := by simpa using h0
    rw [hr]
    clear hr h0 hT
    go_enter Tryd.func42, Tryd.ntmps42
    go_wp2
    go_ret
    exact ⟨rfl, rfl⟩

theorem all_any (v : Value) (p : Option Addr) (n cap : Nat) (hv : v = .slice p n cap) (w : World) : Calls Tryd.prog 64 #[v] w fun e w' =>
    e = .returned (.func (.func 66) #[] #[.pointer (some ⟨w.heap.size, 0, none⟩)]) ∧ w' = w.alloc (.cells #[v] 68) := by
  subst hv
  go_enter Tryd.func64, Tryd.ntmps64
  go_wp2
  go_ret
  exact ⟨rfl, rfl⟩

/-- The kept ones of the first m lines. -/
def keptL (z : Nat → Int) (m : Nat) : List (Fin 32) := (seg 0 m).filter fun x => keptZ z x.val
theorem keptL_succ (z : Nat → Int) (m : Nat) (h : m < 32) : keptL z (m + 1) = keptL z m ++ (if keptZ z m = true then [Fin.ofNat 32 m] else []) := by
  unfold keptL
  rw [seg_succ, List.filter_append, Nat.zero_add]
  congr 1
  rw [List.filter_cons, fin_val m h]
  rfl
theorem keptL_len (z : Nat → Int) (m : Nat) : (keptL z m).length ≤ m := by
  unfold keptL
  exact Nat.le_trans (List.length_filter_le _ _) (by rw [seg_len]; exact Nat.le_refl _)
theorem keptL_pre (z : Nat → Int) (k m : Nat) (h : k ≤ m) : keptL z k <+: keptL z m := (seg_pre 0 k m h).filter _

set_option maxHeartbeats 1000000 in
/-- The kept lines of a table, one by one. -/
theorem all1_stops (n : Nat) (hn : 2 ≤ n) (B b o cap : Nat) (z : Nat → Int) (w : World) (hB : w.cell? ⟨B, 0, none⟩ = some (.slice (some ⟨b, o, none⟩) 32 cap)) (hT : Tab w b o z) :
    SeqStopsK Fence.wide n Tryd.prog 66 #[.pointer (some ⟨B, 0, none⟩)] encF (KS [B, b]) (fun xs => xs = keptL z 32) (fun pre => pre <+: keptL z 32) 32 w := fun l J Jx W hW hJ hJx hY h0 => by
  have hB' := cell_below hB hW
  have hT' := hT.below hW
  have HY := Lib.hid hY
  have HT0 := Lib.hid hT'
  have hn1 : 1 ≤ n := by omega
  clear hB hT hW hJ hJx hY hT'
  refine callsIn_of_wp Tryd.func66 rfl trivial ?_ rfl
  simp only [Tryd.ntmps66, List.size_toArray, List.length_cons, List.length_nil, Nat.reduceAdd, Nat.reduceSub, Array.replicate_succ, Array.replicate_zero, List.push_toArray, List.append_toArray, List.nil_append, List.cons_append]
  gi_wp2_with fail
  refine wpIn_scope_straight ?_
  gi_wp2_with fail
  refine wpIn_label ?_
  gi_wp2_with fail
  gi_loopw [6] (fun i wr => ∃ m : Nat, m ≤ 32 ∧ i = .int .i64 (m : Int) ∧ J (keptL z m) wr ∧ wr.cell? ⟨B, 0, none⟩ = some (.slice (some ⟨b, o, none⟩) 32 cap) ∧ Tab wr b o z) (fun i _ => 64 - (intOf i).toNat)
  case atStart => exact ⟨0, by omega, rfl, h0, hB', HT0.out⟩
  case round =>
    obtain ⟨m, hm, rfl, hJs, hc, hT⟩ := hrel
    have HT := Lib.hid hT
    clear hB' h0 HT0 hT
    by_cases hlt : m < 32
    · have hs := keptL_succ z m hlt
      by_cases hk : keptZ z m = true
      · rw [if_pos hk] at hs
        have HS := Lib.hid hs
        clear hs
        have HK := Lib.hid hk
        clear hk
        obtain ⟨fn, tmps, assign, body, hy, hR⟩ := HY.out (keptL z m) (Fin.ofNat 32 m) wr hJs (by have := keptL_len z m; omega)
        dsimp only [encF] at hy
        rw [fin_val _ hlt] at hy
        gi_wp2_with (refine ⟨trivial, ?_⟩; gi_at_call 42; ((with_reducible refine (callsIn_wide.2 (kept_any b o cap z _ HT.out m hlt)).mono ?_)); rw [HK.out]; rintro e w' ⟨rfl, rfl⟩)
        refine hR.mono ?_
        rintro ee W3 (⟨rfl, hJ3, hk3⟩ | ⟨rfl, hJx3⟩)
        · have hc3 := hk3.cell (a := ⟨B, 0, none⟩) (by simp) hc
          have hT3 : Tab W3 b o z := fun i hi => hk3.cell (a := ⟨b, o + i, none⟩) (by simp) (HT.out i hi)
          have HT3 := Lib.hid hT3
          rw [← HS.out] at hJ3
          clear hy hR hc hJs hk3 HT hT3
          gi_wp2
          go_roundw
          case rel => exact ⟨m + 1, by omega, by go_num, hJ3, hc3, HT3.out⟩
          case measure => simp [intOf]; omega
        · rw [← HS.out] at hJx3
          gi_wp2
          try rw [Exit.noGoto_ret]
          refine bodyPost_ret (results_none rfl _ _ _) rfl ?_
          exact ⟨⟨_, rfl⟩, .inr ⟨_, keptL_pre z _ _ (by omega), hJx3⟩⟩
      · rw [if_neg hk, List.append_nil] at hs
        have HS := Lib.hid hs
        clear hs
        have hk' : keptZ z m = false := by simpa using hk
        have HK := Lib.hid hk'
        clear hk hk'
        gi_wp2_with (refine ⟨trivial, ?_⟩; gi_at_call 42; ((with_reducible refine (callsIn_wide.2 (kept_any b o cap z _ HT.out m hlt)).mono ?_)); rw [HK.out]; rintro e w' ⟨rfl, rfl⟩)
        go_roundw
        case rel => exact ⟨m + 1, by omega, by go_num, by rw [HS.out]; exact hJs, hc, HT.out⟩
        case measure => simp [intOf]; omega
    · obtain rfl : m = 32 := by omega
      gi_wp2
      try rw [Exit.noGoto_normal]
      go_end0
      exact ⟨⟨_, rfl⟩, .inl ⟨_, rfl, hJs⟩⟩
end Go.Proofs.YtanccoahpcfbnaaDoor
