/-
  arena: a new one in one word; what the statements' 'shown' asks.
-/
import Derived.Test.YtchaojdjgbeepaaDoorArI
namespace Go.Proofs.YtchaojdjgbeepaaDoor
open Go.RowKit Go.Lib Go.Shelf
attribute [local go_sem] Oper.semAt_some

/-- So many bytes, all 0. -/
def zer (n : Nat) : List UInt8 := List.replicate n 0
theorem zer_len (n : Nat) : (zer n).length = n := List.length_replicate
theorem zbytes_eq (n : Nat) : zbytes n = (byteCells (zer n)).toArray := by
  apply Array.ext'
  simp only [zbytes, zer, byteCells, madeCells, List.map_replicate]
  apply List.ext_getElem
  · simp
  · intro i h1 h2
    simp [Nat.mod_one]
theorem cntB_app (a b : List UInt8) : cntB (a ++ b) = cntB a + cntB b := List.countP_append
theorem cntB_zer (n : Nat) : cntB (zer n) = 0 := by
  unfold cntB zer
  rw [List.countP_replicate]
  rfl
theorem cntB_wrL (bs : List UInt8) (i : Nat) (l : List UInt8) : cntB (wrL bs i l) = cntB (bs.take i) + cntB l + cntB (bs.drop (i + l.length)) := by rw [wrL, cntB_app, cntB_app]
theorem new_ok (V : VR) (b : Nat) (w : World) (hV : RV w V) (h0 : 1 ≤ b) (h1 : b ≤ 32) :
    Calls Tryd.prog 11 #[.int .i64 (b : Int)] w fun e w' => ∃ p g, e = .returned (.tuple #[.pointer (some ⟨p, 0, none⟩), .int .i64 0]) ∧ Ar w' p g (zer (4096 * b)) ∧ Below w.heap.size w w' ∧ w.heap.size ≤ g ∧ w.heap.size ≤ p := by
  refine (new_good V b w hV h0 h1).mono ?_
  rintro e w' ⟨g, rfl, h1, h2, h3, h4⟩
  exact ⟨g + 1, g, rfl, ⟨by omega, by rw [zer_len]; exact h2, by rw [← zbytes_eq]; exact h1, by rw [zer_len]; omega⟩, h3, h4, by omega⟩

theorem sh_len : (wrL (zer 8192) 8 (bytes4 258)).length = 8192 := by rw [wrL_len _ _ _ (by rw [bytes4_len, zer_len]; omega), zer_len]
theorem sh_8 (h : 8 < (wrL (zer 8192) 8 (bytes4 258)).length) : (wrL (zer 8192) 8 (bytes4 258))[8].toNat = 2 := by
  have := wrL_get (zer 8192) 8 (bytes4 258) (by rw [bytes4_len, zer_len]; omega) 8
  rw [List.getElem?_eq_getElem h, if_pos (by rw [bytes4_len]; omega)] at this
  have e := Option.some.inj (this.trans (show (bytes4 258)[8 - 8]? = some 2 by decide))
  rw [e]; rfl
theorem sh_9 (h : 9 < (wrL (zer 8192) 8 (bytes4 258)).length) : (wrL (zer 8192) 8 (bytes4 258))[9].toNat = 1 := by
  have := wrL_get (zer 8192) 8 (bytes4 258) (by rw [bytes4_len, zer_len]; omega) 9
  rw [List.getElem?_eq_getElem h, if_pos (by rw [bytes4_len]; omega)] at this
  have e := Option.some.inj (this.trans (show (bytes4 258)[9 - 8]? = some 1 by decide))
  rw [e]; rfl
theorem sh_cnt : cntB (wrL (zer 8192) 8 (bytes4 258)) = 2 := by
  rw [cntB_wrL, zer, List.take_replicate, List.drop_replicate]
  have := cntB_zer (min 8 8192)
  rw [zer] at this
  rw [this]
  have := cntB_zer (8192 - (8 + (bytes4 258).length))
  rw [zer] at this
  rw [this]
  decide

set_option maxRecDepth 100000 in
set_option maxHeartbeats 1000000 in
theorem shown_ok (V : VR) (w : World) (hV : RV w V) :
    Calls Tryd.prog 10 #[] w fun e w' => e = .returned (.bool true) ∧ Below w.heap.size w w' := by
  have HN := Lib.hid (new_ok V 2 w hV (by omega) (by omega))
  rw [show ((2 : Nat) : Int) = 2 from rfl] at HN
  have HV := Lib.hid hV
  clear hV
  go_enter Tryd.func10, Tryd.ntmps10
  go_wp2_with fail
  ((with_reducible refine HN.out.mono ?_))
  rintro e w1 ⟨p, g, rfl, hA, hb, hg, hp⟩
  rw [show 4096 * 2 = 8192 from rfl] at hA
  have HS := Lib.hid (store_ok p g _ 8 258 w1 hA (by omega) (by rw [zer_len]; omega) (by omega))
  rw [show ((8 : Nat) : Int) = 8 from rfl, show ((258 : Nat) : Int) = 258 from rfl] at HS
  have HB := Lib.hid hb
  clear hA hb
  go_wp2_with fail
  ((with_reducible refine HS.out.mono ?_))
  rintro e w2 ⟨rfl, hA, hU⟩
  have hb2 := Upd.below HB.out hU HB.out.size hg
  have HB2 := Lib.hid hb2
  have h8 := byte_ok p g _ 8 w2 hA (by rw [sh_len]; omega)
  rw [sh_8, show ((8 : Nat) : Int) = 8 from rfl, show ((2 : Nat) : Int) = 2 from rfl] at h8
  have H8 := Lib.hid h8
  have HA := Lib.hid hA
  clear hA hU hb2 h8 HS
  go_wp2_with fail
  ((with_reducible refine H8.out.mono ?_))
  rintro e w3 ⟨rfl, hb⟩
  have HB3 := Lib.hid (bstep HB2.out (hb.mono (Nat.le_refl _)))
  have HA3 := Lib.hid (HA.out.below hb)
  have h9 := byte_ok p g _ 9 w3 HA3.out (by rw [sh_len]; omega)
  rw [sh_9, show ((9 : Nat) : Int) = 9 from rfl, show ((1 : Nat) : Int) = 1 from rfl] at h9
  have H9 := Lib.hid h9
  clear hb h9 H8
  go_wp2_with fail
  ((with_reducible refine H9.out.mono ?_))
  rintro e w4 ⟨rfl, hb⟩
  have HB4 := Lib.hid (bstep HB3.out hb)
  have HA4 := Lib.hid (HA3.out.below hb)
  have HL := Lib.hid (load_bad V p g _ 8190 w4 (HV.out.below HB4.out) HA4.out ⟨by omega, by omega⟩ (by rw [sh_len]; unfold okB; omega))
  clear hb H9
  go_wp2_with fail
  ((with_reducible refine HL.out.mono ?_))
  rintro e w5 ⟨rfl, hb⟩
  have HB5 := Lib.hid (bstep HB4.out hb)
  have HA5 := Lib.hid (HA4.out.below hb)
  have hP := put_no V p g _ 0 256 w5 (HV.out.below HB5.out) HA5.out (by rw [sh_len]; omega) (.inr (by omega))
  rw [show ((0 : Nat) : Int) = 0 from rfl] at hP
  have HP := Lib.hid hP
  clear hb HL hP
  go_wp2_with fail
  ((with_reducible refine HP.out.mono ?_))
  rintro e w6 ⟨rfl, hb⟩
  have HB6 := Lib.hid (bstep HB5.out hb)
  have HA6 := Lib.hid (HA5.out.below hb)
  have hz := size_ok p g _ w6 HA6.out
  rw [sh_len, show ((8192 : Nat) : Int) = 8192 from rfl] at hz
  have HZ := Lib.hid hz
  have hc := count_ok p g _ w6 HA6.out (by rw [sh_len]; omega)
  rw [sh_cnt, show ((2 : Nat) : Int) = 2 from rfl] at hc
  have HC := Lib.hid hc
  clear hb HP hz hc
  go_wp2_with fail
  ((with_reducible refine HZ.out.mono ?_))
  rintro e w' ⟨rfl, rfl⟩
  go_wp2_with fail
  ((with_reducible refine HC.out.mono ?_))
  rintro e w7 ⟨rfl, hb⟩
  have HB7 := Lib.hid (bstep HB6.out hb)
  clear hb
  go_wp2
  go_ret
  exact ⟨rfl, HB7.out⟩
end Go.Proofs.YtchaojdjgbeepaaDoor
