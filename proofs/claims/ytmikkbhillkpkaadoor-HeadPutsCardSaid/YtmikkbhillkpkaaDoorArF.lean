/-
  arena: Store.
-/
import Derived.Test.YtmikkbhillkpkaaDoorArE
namespace Go.Proofs.YtmikkbhillkpkaaDoor
open Go.RowKit Go.Lib Go.Shelf
attribute [local go_sem] Oper.semAt_some

/-- The j-th byte of a word. -/
def byteOf (v j : Nat) : UInt8 := UInt8.ofNat (v / 256 ^ j % 256)
/-- A word's four bytes, the least part first. -/
def bytes4 (v : Nat) : List UInt8 := [byteOf v 0, byteOf v 1, byteOf v 2, byteOf v 3]
theorem bytes4_len (v : Nat) : (bytes4 v).length = 4 := rfl
theorem bytes4_get (v j : Nat) (h : j < 4) : (bytes4 v)[j]'h = byteOf v j := by
  match j, h with
  | 0, _ => rfl
  | 1, _ => rfl
  | 2, _ => rfl
  | 3, _ => rfl
theorem byteOf_nat (v j : Nat) : ((byteOf v j).toNat : Int) = (v : Int) / 256 ^ j % 256 := by
  unfold byteOf
  rw [UInt8.toNat_ofNat']
  simp

theorem wrL_take (bs : List UInt8) (i : Nat) (l : List UInt8) (j : Nat) (hj : j < l.length) (h : i + l.length ≤ bs.length) : wrL bs i (l.take (j + 1)) = (wrL bs i (l.take j)).set (i + j) l[j] := by
  have hl : (l.take j).length = j := by simp; omega
  have := wrL_snoc bs i (l.take j) l[j] (by omega)
  rw [hl] at this
  rw [← this, List.take_succ_eq_append_getElem hj]
theorem wrL4 (bs : List UInt8) (i v j : Nat) (hj : j < 4) (h : i + 4 ≤ bs.length) : wrL bs i ((bytes4 v).take (j + 1)) = (wrL bs i ((bytes4 v).take j)).set (i + j) (byteOf v j) := by
  rw [wrL_take _ _ _ _ hj h, bytes4_get v j hj]
theorem ArT.drew {t : TypeId} {w : World} {p g : Nat} {bs : List UInt8} (h : ArT t w p g bs) : ArT t w.drew p g bs := ⟨h.ne, h.hp.drew, h.hg.drew, h.len⟩
theorem Upd.drew {g : Nat} {w w' : World} (h : Upd g w w') : Upd g w w'.drew := ⟨h.os, h.tape, h.output, h.size, h.block⟩
theorem st_end {t : TypeId} {w wr : World} {p g i o v j : Nat} {bs : List UInt8} {y : Int} (HS : ArT t (wr.setCell ⟨g, i + j, none⟩ (.int .u8 ((v : Int) / 256 ^ j % 256))) p g bs) (HU : Upd g w wr) (ho : o = i + j) (hy : y = (v : Int) / 256 ^ j % 256) :
    ArT t (wr.setCell ⟨g, o, none⟩ (.int .u8 y)).drew p g bs ∧ Upd g w (wr.setCell ⟨g, o, none⟩ (.int .u8 y)).drew := by
  subst ho hy
  exact ⟨HS.drew, (HU.trans (Upd.setCell g _ wr _)).drew⟩
end Go.Proofs.YtmikkbhillkpkaaDoor
