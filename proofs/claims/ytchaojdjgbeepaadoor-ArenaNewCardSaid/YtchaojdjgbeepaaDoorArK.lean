/-
  selionlaw03.ArenaNew, for every number of blocks and place.
-/
import Derived.Test.YtchaojdjgbeepaaDoorArJ
namespace Go.Proofs.YtchaojdjgbeepaaDoor
open Go.RowKit Go.Lib Go.Shelf
attribute [local go_sem] Oper.semAt_some

theorem zer_get (n i : Nat) (h : i < (zer n).length) : (zer n)[i].toNat = 0 := by simp [zer]
theorem word4_zer (n i : Nat) : word4 (zer n) i = 0 := by
  have h : ∀ j, ((zer n).getD j 0).toNat = 0 := fun j => by
    unfold zer
    rw [List.getD, List.getElem?_replicate]
    split <;> rfl
  unfold word4
  rw [h, h, h, h]

set_option maxRecDepth 100000 in
set_option maxHeartbeats 1000000 in
theorem lawArenaNew_bad (V : VR) (n a : Int) (w : World) (hV : RV w V) (hn : InI n) (h : n < 1 ∨ 32 < n) :
    Calls Tryd.prog 3 #[.int .i64 n, .int .i64 a] w fun e w' => e = .returned (.bool true) ∧ Below w.heap.size w w' := by
  have HS := Lib.hid (shown_ok V w hV)
  have HV := Lib.hid hV
  have hm : IntKind.i64.wrap (n - 1) < 0 ∨ 32 ≤ IntKind.i64.wrap (n - 1) := by
    obtain ⟨h1, h2⟩ := hn
    rw [IntKind.wrap_i64]
    omega
  have HM := Lib.hid hm
  clear hV hn hm
  rcases h with h | h
  · go_enter Tryd.func3, Tryd.ntmps3
    go_wp2_with fail
    ((with_reducible refine HS.out.mono ?_))
    rintro e w1 ⟨rfl, hb⟩
    have HB := Lib.hid hb
    clear hb
    go_wp2_with fail
    ((with_reducible refine (new_bad V n _ w1 (HV.out.below HB.out) rfl HM.out).mono ?_))
    rintro e w2 ⟨rfl, hb⟩
    have HB2 := Lib.hid (bstep HB.out hb)
    clear hb
    go_wp2
    go_ret
    exact ⟨rfl, HB2.out⟩
  · have h' : ¬ n < 1 := by omega
    go_enter Tryd.func3, Tryd.ntmps3
    go_wp2_with fail
    ((with_reducible refine HS.out.mono ?_))
    rintro e w1 ⟨rfl, hb⟩
    have HB := Lib.hid hb
    clear hb
    go_wp2_with fail
    ((with_reducible refine (new_bad V n _ w1 (HV.out.below HB.out) rfl HM.out).mono ?_))
    rintro e w2 ⟨rfl, hb⟩
    have HB2 := Lib.hid (bstep HB.out hb)
    clear hb
    go_wp2
    go_ret
    exact ⟨rfl, HB2.out⟩

/-- What the two calls answer, in one word: in, and at a word's place. -/
def LB (p : Nat) (a : Int) (x y : Int) (w : World) : Prop :=
  Calls Tryd.prog 12 #[.pointer (some ⟨p, 0, none⟩), .int .i64 a] w (fun e w' => e = .returned (.tuple #[.int .u32 0, .int .i64 x]) ∧ Below w.heap.size w w') ∧
  ∀ w1, Below w.heap.size w w1 → Calls Tryd.prog 13 #[.pointer (some ⟨p, 0, none⟩), .int .i64 a] w1 (fun e w' => e = .returned (.tuple #[.int .i64 0, .int .i64 y]) ∧ Below w1.heap.size w1 w')

set_option maxRecDepth 100000 in
set_option maxHeartbeats 1000000 in
theorem lawArenaNew_good (V : VR) (b : Nat) (a : Int) (w : World) (hV : RV w V) (h0 : 1 ≤ b) (h1 : b ≤ 32) (x y : Int) (H : ∀ p g w1, Ar w1 p g (zer (4096 * b)) → RV w1 V → LB p a x y w1)
    (hxy : (x = 0 ∧ y = 0 ∧ 0 ≤ a ∧ a < 4096 * b ∧ a % 4 = 0) ∨ (x = 10 ∧ y = 0 ∧ 0 ≤ a ∧ a < 4096 * b ∧ a % 4 ≠ 0) ∨ (x = 10 ∧ y = 10 ∧ a < 0) ∨ (x = 10 ∧ y = 10 ∧ 0 ≤ a ∧ 4096 * b ≤ a)) :
    Calls Tryd.prog 3 #[.int .i64 (b : Int), .int .i64 a] w fun e w' => e = .returned (.bool true) ∧ Below w.heap.size w w' := by
  have HS := Lib.hid (shown_ok V w hV)
  have HV := Lib.hid hV
  have HH := Lib.hid H
  have e1 : IntKind.i64.wrap (4096 * (b : Int)) = ((4096 * b : Nat) : Int) := by rw [IntWalk.i64_in _ (by omega)]; omega
  have e2 : (4096 : Int) * (b : Int) = ((4096 * b : Nat) : Int) := by omega
  have E := Lib.hid e1
  have E2 := Lib.hid e2
  clear hV e1 e2 H
  go_enter Tryd.func3, Tryd.ntmps3
  go_wp2_with fail
  ((with_reducible refine HS.out.mono ?_))
  rintro e w1 ⟨rfl, hb⟩
  have HB := Lib.hid hb
  clear hb
  go_wp2_with fail
  ((with_reducible refine (new_ok V b w1 (HV.out.below HB.out) h0 h1).mono ?_))
  rintro e w2 ⟨p, g, rfl, hA, hb, hg, hp⟩
  have HB2 := Lib.hid (bstep HB.out hb)
  have HA := Lib.hid hA
  have HL := Lib.hid (HH.out p g w2 hA (HV.out.below HB2.out)).1
  have HY := Lib.hid (HH.out p g w2 hA (HV.out.below HB2.out)).2
  clear hb hA HS HH
  go_wp2_with fail
  ((with_reducible refine HL.out.mono ?_))
  rintro e w3 ⟨rfl, hb⟩
  have HB3 := Lib.hid (bstep HB2.out hb)
  have HA3 := Lib.hid (HA.out.below hb)
  have HY3 := Lib.hid (HY.out w3 hb)
  clear hb HY HL
  go_wp2_with fail
  ((with_reducible refine HY3.out.mono ?_))
  rintro e w4 ⟨rfl, hb⟩
  have HB4 := Lib.hid (bstep HB3.out hb)
  have HA4 := Lib.hid (HA3.out.below hb)
  have hz := size_ok p g _ w4 HA4.out
  have hc := count_ok p g _ w4 HA4.out (by rw [zer_len]; omega)
  rw [zer_len] at hz
  rw [cntB_zer, show ((0 : Nat) : Int) = 0 from rfl] at hc
  have HZ := Lib.hid hz
  have HC := Lib.hid hc
  clear hb HY3 hz hc HA HA3 HA4
  clear E E2
  rcases hxy with ⟨rfl, rfl, k0, k1, k2⟩ | ⟨rfl, rfl, k0, k1, k2⟩ | ⟨rfl, rfl, k0⟩ | ⟨rfl, rfl, k0, k1⟩
  · have f0 : decide (0 ≤ a) = true := by simpa using k0
    have f1 : decide (a < 4096 * (b : Int)) = true := by simpa using k1
    have f2 : (a % 4 == 0) = true := by simpa using k2
    clear k2
    go_wp2_with fail
    ((with_reducible refine HZ.out.mono ?_))
    rintro e w' ⟨rfl, rfl⟩
    go_wp2_with fail
    ((with_reducible refine HC.out.mono ?_))
    rintro e w5 ⟨rfl, hb⟩
    have HB5 := Lib.hid (bstep HB4.out hb)
    clear hb
    go_wp2
    go_ret
    exact ⟨rfl, HB5.out⟩
  · have f0 : decide (0 ≤ a) = true := by simpa using k0
    have f1 : decide (a < 4096 * (b : Int)) = true := by simpa using k1
    have f2 : (a % 4 == 0) = false := by simpa using k2
    clear k2
    go_wp2_with fail
    ((with_reducible refine HZ.out.mono ?_))
    rintro e w' ⟨rfl, rfl⟩
    go_wp2_with fail
    ((with_reducible refine HC.out.mono ?_))
    rintro e w5 ⟨rfl, hb⟩
    have HB5 := Lib.hid (bstep HB4.out hb)
    clear hb
    go_wp2
    go_ret
    exact ⟨rfl, HB5.out⟩
  · have f0 : decide (0 ≤ a) = false := by simpa using k0
    go_wp2_with fail
    ((with_reducible refine HZ.out.mono ?_))
    rintro e w' ⟨rfl, rfl⟩
    go_wp2_with fail
    ((with_reducible refine HC.out.mono ?_))
    rintro e w5 ⟨rfl, hb⟩
    have HB5 := Lib.hid (bstep HB4.out hb)
    clear hb
    go_wp2
    go_ret
    exact ⟨rfl, HB5.out⟩
  · have f0 : decide (0 ≤ a) = true := by simpa using k0
    have f1 : decide (a < 4096 * (b : Int)) = false := by simpa using k1
    go_wp2_with fail
    ((with_reducible refine HZ.out.mono ?_))
    rintro e w' ⟨rfl, rfl⟩
    go_wp2_with fail
    ((with_reducible refine HC.out.mono ?_))
    rintro e w5 ⟨rfl, hb⟩
    have HB5 := Lib.hid (bstep HB4.out hb)
    clear hb
    go_wp2
    go_ret
    exact ⟨rfl, HB5.out⟩

theorem lawArenaNew (V : VR) (n a : Int) (w : World) (hV : RV w V) (hn : InI n) (ha : InI a) :
    Calls Tryd.prog 3 #[.int .i64 n, .int .i64 a] w fun e w' => e = .returned (.bool true) ∧ Below w.heap.size w w' := by
  by_cases h : n < 1 ∨ 32 < n
  · exact lawArenaNew_bad V n a w hV hn h
  · obtain ⟨b, rfl⟩ : ∃ b : Nat, n = b := ⟨n.toNat, by omega⟩
    by_cases k0 : 0 ≤ a
    · by_cases k1 : a < 4096 * b
      · obtain ⟨i, rfl⟩ : ∃ i : Nat, a = i := ⟨a.toNat, by omega⟩
        have hB : ∀ p g w1, Ar w1 p g (zer (4096 * b)) → ∀ w2, Below w1.heap.size w1 w2 → Calls Tryd.prog 13 #[.pointer (some ⟨p, 0, none⟩), .int .i64 (i : Int)] w2 (fun e w' => e = .returned (.tuple #[.int .i64 0, .int .i64 0]) ∧ Below w2.heap.size w2 w') := fun p g w1 hA w2 hb => by
          have := byte_ok p g _ i w2 (hA.below hb) (by rw [zer_len]; omega)
          rw [zer_get] at this
          exact this
        by_cases k2 : (i : Int) % 4 = 0
        · refine lawArenaNew_good V b i w hV (by omega) (by omega) 0 0 (fun p g w1 hA hR => ⟨?_, hB p g w1 hA⟩) (.inl ⟨rfl, rfl, k0, k1, k2⟩)
          have := load_ok p g _ i w1 hA (by rw [zer_len]; omega) (by omega)
          rw [word4_zer] at this
          exact this
        · refine lawArenaNew_good V b i w hV (by omega) (by omega) 10 0 (fun p g w1 hA hR => ⟨?_, hB p g w1 hA⟩) (.inr (.inl ⟨rfl, rfl, k0, k1, k2⟩))
          exact load_bad V p g _ i w1 hR hA ha (by unfold okB; omega)
      · refine lawArenaNew_good V b a w hV (by omega) (by omega) 10 10 (fun p g w1 hA hR => ⟨?_, fun w2 hb => ?_⟩) (.inr (.inr (.inr ⟨rfl, rfl, k0, by omega⟩)))
        · exact load_bad V p g _ a w1 hR hA ha (by unfold okB; rw [zer_len]; omega)
        · exact byte_bad V p g _ a w2 (hR.below hb) (hA.below hb) ha (by unfold okB; rw [zer_len]; omega)
    · refine lawArenaNew_good V b a w hV (by omega) (by omega) 10 10 (fun p g w1 hA hR => ⟨?_, fun w2 hb => ?_⟩) (.inr (.inr (.inl ⟨rfl, rfl, by omega⟩)))
      · exact load_bad V p g _ a w1 hR hA ha (by unfold okB; omega)
      · exact byte_bad V p g _ a w2 (hR.below hb) (hA.below hb) ha (by unfold okB; omega)
end Go.Proofs.YtchaojdjgbeepaaDoor
