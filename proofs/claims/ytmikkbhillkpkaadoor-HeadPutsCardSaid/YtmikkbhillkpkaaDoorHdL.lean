/-
  head.decode and head.Decode, of any text.
-/
import Derived.Test.YtmikkbhillkpkaaDoorHdK
namespace Go.Proofs.YtmikkbhillkpkaaDoor
open Go.RowKit Go.Lib Go.Shelf
attribute [local go_sem] Oper.semAt_some
set_option linter.unusedSimpArgs false
set_option linter.unusedVariables false

/-- What eight bytes are the head of. -/
def decL : List UInt8 → Option Mk
  | [c0, c1, c2, c3, c4, c5, c6, c7] =>
    if rightB (mkN (rdN c1 c2 c3 c4 c5 c6 0) (rdN c1 c2 c3 c4 c5 c6 3) (rdN c1 c2 c3 c4 c5 c6 1) (rdN c1 c2 c3 c4 c5 c6 2)) = true ∧
      [c0, c1, c2, c3, c4, c5, c6, c7] = hd8 (rdN c1 c2 c3 c4 c5 c6 0) (rdN c1 c2 c3 c4 c5 c6 3) (rdN c1 c2 c3 c4 c5 c6 1) (rdN c1 c2 c3 c4 c5 c6 2) then
      some (mkN (rdN c1 c2 c3 c4 c5 c6 0) (rdN c1 c2 c3 c4 c5 c6 3) (rdN c1 c2 c3 c4 c5 c6 1) (rdN c1 c2 c3 c4 c5 c6 2)) else none
  | _ => none
theorem decL_len {l : List UInt8} (h : l.length ≠ 8) : decL l = none := by
  unfold decL
  split
  · simp at h
  · rfl
def errO (V : HR) : Option Mk → Value
  | none => .iface 118 (.pointer (some V.hH))
  | some _ => .nilIface
def marO : Option Mk → Array Value
  | none => mk0
  | some m => mkA m
theorem list8 {s : ByteArray} (h : s.size = 8) : ∃ c0 c1 c2 c3 c4 c5 c6 c7, s = b8 c0 c1 c2 c3 c4 c5 c6 c7 := by
  obtain ⟨⟨l⟩⟩ := s
  have hl : l.length = 8 := h
  match l, hl with
  | [c0, c1, c2, c3, c4, c5, c6, c7], _ => exact ⟨_, _, _, _, _, _, _, _, rfl⟩
theorem rdN_lt (c1 c2 c3 c4 c5 c6 : UInt8) (k : Nat) : rdN c1 c2 c3 c4 c5 c6 k < 4294967296 := by
  have h1 := c1.toNat_lt
  have h2 := c2.toNat_lt
  have h3 := c3.toNat_lt
  have h4 := c4.toNat_lt
  have h5 := c5.toNat_lt
  have h6 := c6.toNat_lt
  unfold rdN
  split <;> omega
theorem hdecode_any (s : ByteArray) (w : World) (V : HR) (hV : HV w V) : Calls Tryd.prog 33 #[.string s] w fun e w' =>
    e = .returned (.tuple #[.agg (marO (decL s.data.toList)), errO V (decL s.data.toList)]) ∧ Below w.heap.size w w' := by
  by_cases h8 : s.size = 8
  · obtain ⟨c0, c1, c2, c3, c4, c5, c6, c7, rfl⟩ := list8 h8
    have hRD := fun k hk W => hread_any k hk c0 c1 c2 c3 c4 c5 c6 c7 W
    have hd : decL (b8 c0 c1 c2 c3 c4 c5 c6 c7).data.toList = if rightB (mkN (rdN c1 c2 c3 c4 c5 c6 0) (rdN c1 c2 c3 c4 c5 c6 3) (rdN c1 c2 c3 c4 c5 c6 1) (rdN c1 c2 c3 c4 c5 c6 2)) = true ∧
      (b8 c0 c1 c2 c3 c4 c5 c6 c7).data.toList = hd8 (rdN c1 c2 c3 c4 c5 c6 0) (rdN c1 c2 c3 c4 c5 c6 3) (rdN c1 c2 c3 c4 c5 c6 1) (rdN c1 c2 c3 c4 c5 c6 2) then
      some (mkN (rdN c1 c2 c3 c4 c5 c6 0) (rdN c1 c2 c3 c4 c5 c6 3) (rdN c1 c2 c3 c4 c5 c6 1) (rdN c1 c2 c3 c4 c5 c6 2)) else none := rfl
    cases hr : rightB (mkN (rdN c1 c2 c3 c4 c5 c6 0) (rdN c1 c2 c3 c4 c5 c6 3) (rdN c1 c2 c3 c4 c5 c6 1) (rdN c1 c2 c3 c4 c5 c6 2)) with
    | false =>
      rw [hd, if_neg (by rw [hr]; simp)]
      exact hdec_bad _ h8 _ (rdN_lt c1 c2 c3 c4 c5 c6) hRD w V hV hr
    | true =>
      refine (hdec_good _ h8 _ (rdN_lt c1 c2 c3 c4 c5 c6) hRD w V hV hr).mono ?_
      rintro e w' (⟨rfl, he, hb⟩ | ⟨rfl, he, hb⟩)
      · rw [hd, if_pos ⟨hr, he⟩]
        exact ⟨rfl, hb⟩
      · rw [hd, if_neg (fun h => he h.2)]
        exact ⟨rfl, hb⟩
  · rw [decL_len (fun h => h8 h)]
    exact hdec_len s h8 w V hV
set_option maxHeartbeats 1000000 in
theorem hDec_none (s : ByteArray) (h : decL s.data.toList = none) (w : World) (V : HR) (hV : HV w V) : Calls Tryd.prog 12 #[.string s] w fun e w' =>
    e = .returned (.tuple #[.agg mk0, .int .i64 60]) ∧ Below w.heap.size w w' := by
  obtain ⟨b0, hB0, hs0⟩ := blk1 w mk0 23
  have hd := hdecode_any s _ V (hV.below hB0)
  rw [h] at hd
  have HD := Lib.hid hd
  have HB0 := Lib.hid hB0
  have HM := Lib.hid b0
  have HVV := Lib.hid hV
  clear hd h hB0 b0 hs0 hV
  go_enter Tryd.func12, Tryd.ntmps12
  dsimp only [errO, marO] at HD
  go_wp2_with fail
  ((with_reducible refine HD.out.mono ?_))
  rintro e w1 ⟨rfl, hb⟩
  have hB1 := bstep HB0.out hb
  have hB2 := bel_al' hB1 (.cells mk0 23)
  have hv2 := HVV.out.below hB2
  have HN := Lib.hid (hnum_head V _ hv2)
  have b1 := (HM.out.below' hb).alloc (.cells mk0 23)
  have HM1 := Lib.hid b1
  have HB2 := Lib.hid hB2
  clear hb hB1 hB2 hv2 HD b1
  go_wp2_with fail
  ((with_reducible refine HN.out.mono ?_))
  rintro e w' ⟨rfl, rfl⟩
  have m0 := HM1.out.cell (k := 0) rfl
  have m1 := HM1.out.cell (k := 1) rfl
  have m2 := HM1.out.cell (k := 2) rfl
  have m3 := HM1.out.cell (k := 3) rfl
  have e0 := HM1.out.frozen 0
  have e1 := HM1.out.frozen 1
  have e2 := HM1.out.frozen 2
  have e3 := HM1.out.frozen 3
  generalize w1.alloc (.cells mk0 23) = w2 at m0 m1 m2 m3 e0 e1 e2 e3 HB2 ⊢
  go_wp2
  refine bodyPost_ret (v := .tuple #[.agg mk0, .int .i64 60]) (by simp [results, Tryd.results12, go_sem, m0, m1, m2, m3]) rfl ⟨rfl, ?_⟩
  repeat (first | exact HB2.out | refine bel_al' ?_ _ | refine bel_set' ?_ (by omega) | refine bel_dr' ?_)
set_option maxHeartbeats 1000000 in
theorem hDec_some (s : ByteArray) (m : Mk) (h : decL s.data.toList = some m) (w : World) (V : HR) (hV : HV w V) : Calls Tryd.prog 12 #[.string s] w fun e w' =>
    e = .returned (.tuple #[.agg (mkA m), .int .i64 0]) ∧ Below w.heap.size w w' := by
  obtain ⟨b0, hB0, hs0⟩ := blk1 w mk0 23
  have hd := hdecode_any s _ V (hV.below hB0)
  rw [h] at hd
  have HD := Lib.hid hd
  have HB0 := Lib.hid hB0
  have HM := Lib.hid b0
  have hl0 := b0.lt
  clear hd h hB0 b0 hs0 hV
  go_enter Tryd.func12, Tryd.ntmps12
  dsimp only [errO, marO, mkA] at HD
  go_wp2_with fail
  ((with_reducible refine HD.out.mono ?_))
  rintro e w1 ⟨rfl, hb⟩
  have hB1 := bstep HB0.out hb
  have hm1 := HM.out.below' hb
  have m0 := hm1.cell (k := 0) rfl
  have m1 := hm1.cell (k := 1) rfl
  have m2 := hm1.cell (k := 2) rfl
  have m3 := hm1.cell (k := 3) rfl
  have e0 := hm1.frozen 0
  have e1 := hm1.frozen 1
  have e2 := hm1.frozen 2
  have e3 := hm1.frozen 3
  have hl1 := hm1.lt
  have HB1 := Lib.hid hB1
  clear hb hB1 HD hm1 hl0
  go_wp2
  refine bodyPost_ret (v := .tuple #[.agg (mkA m), .int .i64 0]) (by simp [results, Tryd.results12, go_sem, m0, m1, m2, m3, hl1]) rfl ⟨rfl, ?_⟩
  repeat (first | exact HB1.out | refine bel_al' ?_ _ | refine bel_set' ?_ (by omega) | refine bel_dr' ?_)
theorem hDec_any (s : ByteArray) (w : World) (V : HR) (hV : HV w V) : Calls Tryd.prog 12 #[.string s] w fun e w' =>
    e = .returned (.tuple #[.agg (marO (decL s.data.toList)), .int .i64 (if (decL s.data.toList).isSome then 0 else 60)]) ∧ Below w.heap.size w w' := by
  cases h : decL s.data.toList with
  | none => exact hDec_none s h w V hV
  | some m => exact hDec_some s m h w V hV
end Go.Proofs.YtmikkbhillkpkaaDoor
