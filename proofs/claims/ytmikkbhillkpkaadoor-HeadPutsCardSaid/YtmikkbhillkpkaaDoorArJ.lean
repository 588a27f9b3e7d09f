/-
  arena: a new one in one word; what the statements' 'shown' asks.
-/
import Derived.Test.YtmikkbhillkpkaaDoorArI
namespace Go.Proofs.YtmikkbhillkpkaaDoor
open Go.RowKit Go.Lib Go.Shelf
attribute [local go_sem] Oper.semAt_some

/-- So many bytes, all 0. -/
def zer (n : Nat) : List UInt8 := List.replicate n 0
theorem zer_len (n : Nat) : (zer n).length = n := List.length_replicate
theorem zbytes_eq (n : Nat) : zbytes n = (byteCells (zer n)).toArray := by
  apply Array.ext'
  simp only [zbytes, zer, byteCells, madeCells, List.map_replicate]
  apply List.ext_getElem
  · simp
  · intro i h1 h2
    simp [Nat.mod_one]
theorem cntB_app (a b : List UInt8) : cntB (a ++ b) = cntB a + cntB b := List.countP_append
theorem cntB_zer (n : Nat) : cntB (zer n) = 0 := by
  unfold cntB zer
  rw [List.countP_replicate]
  rfl
theorem cntB_wrL (bs : List UInt8) (i : Nat) (l : List UInt8) : cntB (wrL bs i l) = cntB (bs.take i) + cntB l + cntB (bs.drop (i + l.length)) := by rw [wrL, cntB_app, cntB_app]
theorem new_ok (V : VR) (b : Nat) (w : World) (hV : RV w V) (h0 : 1 ≤ b) (h1 : b ≤ 32) :
    Calls Tryd.prog 19 #[.int .i64 (b : Int)] w fun e w' => ∃ p g, e = .returned (.tuple #[.pointer (some ⟨p, 0, none⟩), .int .i64 0]) ∧ Ar w' p g (zer (4096 * b)) ∧ Below w.heap.size w w' ∧ w.heap.size ≤ g ∧ w.heap.size ≤ p := by
  refine (new_good V b w hV h0 h1).mono ?_
  rintro e w' ⟨g, rfl, h1, h2, h3, h4⟩
  exact ⟨g + 1, g, rfl, ⟨by omega, by rw [zer_len]; exact h2, by rw [← zbytes_eq]; exact h1, by rw [zer_len]; omega⟩, h3, h4, by omega⟩

theorem sh_len : (wrL (zer 8192) 8 (bytes4 258)).length = 8192 := by rw [wrL_len _ _ _ (by rw [bytes4_len, zer_len]; omega), zer_len]
theorem sh_8 (h : 8 < (wrL (zer 8192) 8 (bytes4 258)).length) : (wrL (zer 8192) 8 (bytes4 258))[8].toNat = 2 := by
  have := wrL_get (zer 8192) 8 (bytes4 258) (by rw [bytes4_len, zer_len]; omega) 8
  rw [List.getElem?_eq_getElem h, if_pos (by rw [bytes4_len]; omega)] at this
  have e := Option.some.inj (this.trans (show (bytes4 258)[8 - 8]? = some 2 by decide))
  rw [e]; rfl
theorem sh_9 (h : 9 < (wrL (zer 8192) 8 (bytes4 258)).length) : (wrL (zer 8192) 8 (bytes4 258))[9].toNat = 1 := by
  have := wrL_get (zer 8192) 8 (bytes4 258) (by rw [bytes4_len, zer_len]; omega) 9
  rw [List.getElem?_eq_getElem h, if_pos (by rw [bytes4_len]; omega)] at this
  have e := Option.some.inj (this.trans (show (bytes4 258)[9 - 8]? = some 1 by decide))
  rw [e]; rfl
theorem sh_cnt : cntB (wrL (zer 8192) 8 (bytes4 258)) = 2 := by
  rw [cntB_wrL, zer, List.take_replicate, List.drop_replicate]
  have := cntB_zer (min 8 8192)
  rw [zer] at this
  rw [this]
  have := cntB_zer (8192 - (8 + (bytes4 258).length))
  rw [zer] at this
  rw [this]
  decide

end Go.Proofs.YtmikkbhillkpkaaDoor
