/-
  HoleLines of chapter 8, walked: it returns true for every list and line, and what lay in memory stays.
-/
import Derived.Test.YtgjhdjfjfmbejaaHoleKept
import Derived.Test.YtgjhdjfjfmbejaaHoleLinePlain
namespace Go.Proofs.Ytgjhdjfjfmbejaa
open Go.RowKit Go.Lib Go.Shelf
attribute [local go_sem] Oper.semAt_some

set_option maxRecDepth 100000 in
set_option maxHeartbeats 2000000 in
theorem lines_no (p : Option Addr) (n cap : Nat) (line : Int) (w : World) (hn : n ≤ cap) (hm : cap ≤ maxLen) (hA : NoTab w (.slice p (min n 34) cap)) :
    Calls Try.prog 6 #[.slice p n cap, .int .i64 line] w fun e w' => e = .returned (.bool true) ∧ Below w.heap.size w w' := by
  have HA := Lib.hid hA
  clear hA
  go_enter Try.func6, Try.ntmps6
  go_wp2_with (first
    | (go_at_call 8; ((with_reducible refine (shown_any _).mono ?_)); rintro e w1 ⟨rfl, hb⟩; replace HA := Lib.hid (HA.out.below hb); have HB := Lib.hid hb; clear hb)
    | (go_at_call 9; ((with_reducible refine (cut_any p n cap _ hn hm).mono ?_)); rintro e w' ⟨rfl, rfl⟩)
    | (go_at_call 10; ((with_reducible refine (all_no _ _ HA.out).mono ?_)); rintro e w2 ⟨rfl, hb⟩; replace HA := Lib.hid (HA.out.below hb); replace HB := Lib.hid (bstep HB.out hb); clear hb)
    | (go_at_call 25; ((with_reducible refine (right_none _ _ HA.out).mono ?_)); rintro e w2 ⟨rfl, hb⟩; replace HB := Lib.hid (bstep HB.out hb); clear hb))
  go_ret
  exact ⟨rfl, HB.out⟩

set_option maxRecDepth 100000 in
set_option maxHeartbeats 4000000 in
theorem lines_tab (b o cap : Nat) (z : Nat → Int) (line : Int) (w : World) (hn : 32 ≤ cap) (hm : cap ≤ maxLen) (hT : Tab w b o z) (hr : rightT z = true) :
    Calls Try.prog 6 #[.slice (some ⟨b, o, none⟩) 32 cap, .int .i64 line] w fun e w' => e = .returned (.bool true) ∧ Below w.heap.size w w' := by
  have HT := Lib.hid hT
  have HR := Lib.hid hr
  clear hT hr
  go_enter Try.func6, Try.ntmps6
  go_wp2_with (first
    | (go_at_call 8; ((with_reducible refine (shown_any _).mono ?_)); rintro e w1 ⟨rfl, hb⟩; replace HT := Lib.hid (HT.out.below hb); have HB := Lib.hid hb; clear hb)
    | (go_at_call 9; ((with_reducible refine (cut_32 _ cap _ hn hm).mono ?_)); rintro e w' ⟨rfl, rfl⟩)
    | (go_at_call 10; ((with_reducible refine (all_h b o cap z _ HT.out HR.out).mono ?_)); rintro e w2 ⟨g, rfl, hH, hb⟩; have HH := Lib.hid hH; replace HT := Lib.hid (HT.out.below hb); replace HB := Lib.hid (bstep HB.out hb); clear hb hH))
  have hlz := holesZ_len (keptZ z) 32 0 (by omega)
  have HBD := Lib.hid (holesZ_bounds (keptZ z) 32 0 (by omega))
  have HRI := Lib.hid (rise (keptZ z))
  have HC := Lib.hid (fun l : Nat => cntL_holes (keptZ z) l 32 0 (by omega))
  generalize hps : holesZ (keptZ z) 0 = ps at HH HBD HRI HC hlz ⊢
  clear hps
  go_loopw [8, 9] (fun c i wr => ∃ k : Nat, k ≤ ps.length ∧ i = .int .i64 (k : Int) ∧ c = .int .i64 (cntL line (ps.take k) : Int) ∧ Below w2.heap.size w2 wr) (fun _ i _ => 64 - (intOf i).toNat)
  case atStart => exact ⟨0, by omega, rfl, rfl, Below.refl _ _⟩
  case round =>
    obtain ⟨k, hk, rfl, rfl, hB⟩ := hrel
    have HBr := Lib.hid hB
    clear hB
    by_cases hlt : k < ps.length
    · have hx : ps[k]? = some ps[k] := List.getElem?_eq_getElem hlt
      have hmem := HBD.out ps[k] (List.getElem_mem hlt)
      have hcs := cntL_take line ps k _ hx
      obtain ⟨b', o', e, c0, c1⟩ := (HH.out.below HBr.out).at hx
      have hprev : 0 < k → ∃ y : Nat × Nat, wr.cell? ⟨g, (k - 1) * 2 + 1, none⟩ = some (.int .i64 (y.2 : Int)) ∧ y.2 < (ps[k]).1 := by
        intro h0
        have hx' : ps[k - 1]? = some ps[k - 1] := List.getElem?_eq_getElem (by omega)
        obtain ⟨b2, o2, e2, _, d1⟩ := (HH.out.below HBr.out).at hx'
        simp at e2
        obtain ⟨rfl, rfl⟩ := e2
        rw [Nat.zero_add] at d1
        exact ⟨_, d1, HRI.out (k - 1) _ _ hx' (by rw [show k - 1 + 1 = k by omega]; exact hx)⟩
      have hle := cntL_le line (ps.take k)
      rw [List.length_take, Nat.min_eq_left hk] at hle
      generalize ps[k] = x at hmem hcs c0 c1 hprev
      generalize cntL line (ps.take k) = c at hcs hle ⊢
      injection e with e
      injection e with e1 e2
      subst e1 e2
      rw [Nat.zero_add] at c0 c1
      have i0 : (0 : Int) ≤ (k : Int) := by omega
      have i1 : (k : Int) < (ps.length : Int) := by omega
      obtain ⟨hm1, hm2⟩ := hmem
      have t1 : decide ((x.2 : Int) ≤ (x.1 : Int)) = false := by simp; omega
      have t1n : decide (x.2 ≤ x.1) = false := by simp; omega
      have t3n : decide (32 < x.2) = false := by simp; omega
      have t2 : decide ((x.1 : Int) < 0) = false := by simp
      have t3 : decide ((32 : Int) < (x.2 : Int)) = false := by simp; omega
      clear hx
      have HBN := Lib.hid (Below.refl wr.heap.size wr)
      have fin : ∀ (c' : Nat) (m : Nat), c' = cntL line (ps.take (k + 1)) → ∃ k' : Nat, k' ≤ ps.length ∧ Value.int .i64 ((k : Int) + 1) = .int .i64 (k' : Int) ∧ Value.int .i64 (c' : Int) = .int .i64 (cntL line (ps.take k') : Int) ∧ Below w2.heap.size w2 (wr.drewN m) :=
        fun c' m h => ⟨k + 1, by omega, by go_num, by rw [h], below_drewN HBr.out m⟩
      have FIN := Lib.hid fin
      clear fin
      by_cases hq : inB line x = true
      · rw [if_pos hq] at hcs
        have HCS := Lib.hid hcs
        clear hcs
        have hq' : (x.1 : Int) ≤ line ∧ line < (x.2 : Int) := by simpa [inB] using hq
        obtain ⟨q1, q2⟩ := hq'
        clear hq
        by_cases h0 : 0 < k
        · obtain ⟨y, d1, hy⟩ := hprev h0
          have t4 : decide ((0 : Int) < (k : Int)) = true := by simp; omega
          have t5 : decide ((x.1 : Int) ≤ (y.2 : Int)) = false := by simp; omega
          have t5n : decide (x.1 ≤ y.2) = false := by simp; omega
          have t4n : decide (0 < k) = true := by simp; omega
          have j1 : (0 : Int) ≤ (k : Int) - 1 := by omega
          have j2 : (k : Int) - 1 < (ps.length : Int) := by omega
          have j5 : (1 : Int) ≤ (k : Int) := by omega
          have j6 : 1 ≤ k := by omega
          have j7 : (k : Int) < (ps.length : Int) + 1 := by omega
          have j8 : k - 1 < ps.length := by omega
          clear hprev
          go_wp2
          have j3 : IntKind.i64.wrap ((k : Int) - 1) = (k : Int) - 1 := IntWalk.i64_in _ (by omega)
          have j4 : ((k : Int) - 1).toNat = k - 1 := by omega
          go_quiet (fail)
          clear j3 j4
          go_wp2
          go_roundw
          case rel => exact FIN.out (c + 1) _ HCS.out.symm
          case measure => simp [intOf]; omega
        · have t4 : decide ((0 : Int) < (k : Int)) = false := by simp; omega
          have t4n : decide (0 < k) = false := by simp; omega
          clear hprev h0
          go_wp2
          go_quiet (fail)
          go_wp2
          go_roundw
          case rel => exact FIN.out (c + 1) _ HCS.out.symm
          case measure => simp [intOf]; omega
      · rw [if_neg hq, Nat.add_zero] at hcs
        have HCS := Lib.hid hcs
        clear hcs
        have hq' : ¬ ((x.1 : Int) ≤ line ∧ line < (x.2 : Int)) := by simpa [inB] using hq
        clear hq
        by_cases q1 : (x.1 : Int) ≤ line
        · have q2 : (x.2 : Int) ≤ line := by omega
          clear hq'
          by_cases h0 : 0 < k
          · obtain ⟨y, d1, hy⟩ := hprev h0
            have t4 : decide ((0 : Int) < (k : Int)) = true := by simp; omega
            have t5 : decide ((x.1 : Int) ≤ (y.2 : Int)) = false := by simp; omega
            have t5n : decide (x.1 ≤ y.2) = false := by simp; omega
            have t4n : decide (0 < k) = true := by simp; omega
            have j1 : (0 : Int) ≤ (k : Int) - 1 := by omega
            have j2 : (k : Int) - 1 < (ps.length : Int) := by omega
            have j5 : (1 : Int) ≤ (k : Int) := by omega
            have j6 : 1 ≤ k := by omega
            have j7 : (k : Int) < (ps.length : Int) + 1 := by omega
            have j8 : k - 1 < ps.length := by omega
            clear hprev
            go_wp2
            have j3 : IntKind.i64.wrap ((k : Int) - 1) = (k : Int) - 1 := IntWalk.i64_in _ (by omega)
            have j4 : ((k : Int) - 1).toNat = k - 1 := by omega
            go_quiet (fail)
            clear j3 j4
            go_wp2
            go_roundw
            case rel => exact FIN.out c _ HCS.out.symm
            case measure => simp [intOf]; omega
          · have t4 : decide ((0 : Int) < (k : Int)) = false := by simp; omega
            have t4n : decide (0 < k) = false := by simp; omega
            clear hprev h0
            go_wp2
            go_quiet (fail)
            go_wp2
            go_roundw
            case rel => exact FIN.out c _ HCS.out.symm
            case measure => simp [intOf]; omega
        · have q2 : line < (x.1 : Int) := by omega
          clear hq'
          by_cases h0 : 0 < k
          · obtain ⟨y, d1, hy⟩ := hprev h0
            have t4 : decide ((0 : Int) < (k : Int)) = true := by simp; omega
            have t5 : decide ((x.1 : Int) ≤ (y.2 : Int)) = false := by simp; omega
            have t5n : decide (x.1 ≤ y.2) = false := by simp; omega
            have t4n : decide (0 < k) = true := by simp; omega
            have j1 : (0 : Int) ≤ (k : Int) - 1 := by omega
            have j2 : (k : Int) - 1 < (ps.length : Int) := by omega
            have j5 : (1 : Int) ≤ (k : Int) := by omega
            have j6 : 1 ≤ k := by omega
            have j7 : (k : Int) < (ps.length : Int) + 1 := by omega
            have j8 : k - 1 < ps.length := by omega
            clear hprev
            go_wp2
            have j3 : IntKind.i64.wrap ((k : Int) - 1) = (k : Int) - 1 := IntWalk.i64_in _ (by omega)
            have j4 : ((k : Int) - 1).toNat = k - 1 := by omega
            go_quiet (fail)
            clear j3 j4
            go_wp2
            go_roundw
            case rel => exact FIN.out c _ HCS.out.symm
            case measure => simp [intOf]; omega
          · have t4 : decide ((0 : Int) < (k : Int)) = false := by simp; omega
            have t4n : decide (0 < k) = false := by simp; omega
            clear hprev h0
            go_wp2
            go_quiet (fail)
            go_wp2
            go_roundw
            case rel => exact FIN.out c _ HCS.out.symm
            case measure => simp [intOf]; omega
    · obtain rfl : k = ps.length := by omega
      rw [List.take_length]
      have HTr := Lib.hid (HT.out.below HBr.out)
      clear HT HH HRI hlt
      by_cases hl0 : line < 0
      · have hc0 := cntL_out line ps HBD.out (.inl hl0)
        rw [hc0]
        clear hc0
        go_wp2
        go_ret
        exact ⟨rfl, bstep HB.out HBr.out⟩
      · by_cases hl1 : 32 ≤ line
        · have hc0 := cntL_out line ps HBD.out (.inr hl1)
          rw [hc0]
          clear hc0
          go_wp2
          go_ret
          exact ⟨rfl, bstep HB.out HBr.out⟩
        · obtain ⟨l, rfl⟩ := Int.eq_ofNat_of_zero_le (show 0 ≤ line by omega)
          have hl : l < 32 := by omega
          have hc0 := HC.out l
          cases hk : keptZ z l with
          | true =>
            rw [if_neg (by rw [hk]; simp)] at hc0
            rw [hc0]
            have HK := Lib.hid hk
            clear hc0 hk
            go_wp2_with (go_at_call 26; ((with_reducible refine (Kept_t l b o cap z _ HTr.out HR.out hl HK.out).mono ?_)); rintro e w3 ⟨rfl, hb⟩; have HB3 := Lib.hid (bstep (bstep HB.out HBr.out) hb); clear hb)
            go_ret
            exact ⟨rfl, HB3.out⟩
          | false =>
            rw [if_pos ⟨Nat.zero_le _, hl, hk⟩] at hc0
            rw [hc0]
            have HK := Lib.hid hk
            clear hc0 hk
            go_wp2_with (go_at_call 26; ((with_reducible refine (Kept_f l b o cap z _ HTr.out HR.out hl HK.out).mono ?_)); rintro e w3 ⟨rfl, hb⟩; have HB3 := Lib.hid (bstep (bstep HB.out HBr.out) hb); clear hb)
            go_ret
            exact ⟨rfl, HB3.out⟩
theorem lawHoleLines (p : Option Addr) (n cap : Nat) (line : Int) (w : World) (hn : n ≤ cap) (hm : cap ≤ maxLen) (hI : IC w p n) :
    Calls Try.prog 6 #[.slice p n cap, .int .i64 line] w fun e w' => e = .returned (.bool true) ∧ Below w.heap.size w w' := by
  rcases tabOr_of (cap := cap) hI with h | ⟨b, o, z, rfl, rfl, hT, hr⟩
  · exact lines_no p n cap line w hn hm h
  · exact lines_tab b o cap z line w hn hm hT hr
end Go.Proofs.Ytgjhdjfjfmbejaa
