/-
  head.even; a head's bytes, one by one.
-/
import Derived.Test.YtmikkbhillkpkaaDoorHdC
import Derived.Test.YtmikkbhillkpkaaDoorApp
import Derived.Lib.BufferWrite
import Derived.Deep.QuietTactic
import Derived.BigQuiet
import Derived.OrdersIn
import Derived.TacticsIn
namespace Go.Proofs.YtmikkbhillkpkaaDoor
open Go.RowKit Go.Lib Go.Shelf
attribute [local go_sem] Oper.semAt_some
set_option linter.unusedSimpArgs false
set_option linter.unusedVariables false

/-- The byte with which, and some others, each binary digit is 1 an even number of times. -/
def xorL (l : List UInt8) : UInt8 := l.foldl (· ^^^ ·) 0
theorem xorL_snoc (l : List UInt8) (b : UInt8) : xorL (l ++ [b]) = xorL l ^^^ b := by simp [xorL]
theorem xorL_take (l : List UInt8) (k : Nat) (b : UInt8) (h : l[k]? = some b) : xorL (l.take (k + 1)) = xorL (l.take k) ^^^ b := by
  obtain ⟨h1, h2⟩ := List.getElem?_eq_some_iff.1 h
  rw [List.take_succ_eq_append_getElem h1, h2, xorL_snoc]
theorem xor_u8 (a b : UInt8) : bits .xor .u8 (a.toNat : Int) (b.toNat : Int) = ((a ^^^ b).toNat : Int) := by
  have h1 : (BitVec.ofInt 8 (a.toNat : Int)).toNat = a.toNat := by
    rw [BitVec.ofInt_natCast, BitVec.toNat_ofNat]; exact Nat.mod_eq_of_lt a.toNat_lt
  have h2 : (BitVec.ofInt 8 (b.toNat : Int)).toNat = b.toNat := by
    rw [BitVec.ofInt_natCast, BitVec.toNat_ofNat]; exact Nat.mod_eq_of_lt b.toNat_lt
  have hx := (a ^^^ b).toNat_lt
  show IntKind.u8.wrap ((BitVec.ofInt 8 (a.toNat : Int) ^^^ BitVec.ofInt 8 (b.toNat : Int)).toNat : Int) = _
  rw [BitVec.toNat_xor, h1, h2, ← UInt8.toNat_xor, IntKind.wrap_u8]
  omega
theorem byteCells_at (l : List UInt8) (j : Nat) : (byteCells l)[j]? = (l[j]?).map fun b => Value.int .u8 b.toNat := by simp [byteCells]
theorem byteCells_app (a b : List UInt8) : byteCells (a ++ b) = byteCells a ++ byteCells b := by simp [byteCells]
/-- Bytes in memory. -/
def BL (w : World) (q : Option Addr) (l : List UInt8) : Prop := ∀ j b, l[j]? = some b → ∃ g, q = some ⟨g, 0, none⟩ ∧ w.cell? ⟨g, j, none⟩ = some (.int .u8 (b.toNat : Int))
theorem bl_own {w : World} {base : Nat} {q : Option Addr} {n c : Nat} {l : List UInt8} (h : w.ownsRow base 5 1 (.slice q n c) n (byteCells l)) : BL w q l := fun j b hj => by
  have hn : l.length = n := by have := h.1; simpa [byteCells_length] using this
  have hjl := (List.getElem?_eq_some_iff.1 hj).1
  obtain ⟨g, cap, hv, _, _⟩ := h.form (by omega)
  simp at hv
  obtain ⟨rfl, _⟩ := hv
  refine ⟨g, rfl, ?_⟩
  have := h.cells (g := g) rfl j (.int .u8 (b.toNat : Int)) (by rw [byteCells_at, hj]; rfl)
  rw [show (⟨g, 0, none⟩ : Addr).add j = ⟨g, j, none⟩ by simp [Addr.add]; omega] at this
  exact this
set_option maxHeartbeats 1000000 in
theorem even_any (q : Option Addr) (n c : Nat) (l : List UInt8) (w : World) (hn : l.length = n) (hm : n ≤ 100) (h : BL w q l) : Calls Tryd.prog 46 #[.slice q n c] w fun e w' => e = .returned (.int .u8 ((xorL l).toNat : Int)) ∧ w = w' := by
  have HB := Lib.hid h
  have HN := Lib.hid hn
  clear h hn
  go_enter Tryd.func46, Tryd.ntmps46
  go_wp2
  go_loop [3, 8] (fun s3 s8 => ∃ k : Nat, k ≤ n ∧ s8 = .int .i64 (k : Int) ∧ s3 = .int .u8 ((xorL (l.take k)).toNat : Int)) (fun _ s8 => n - (intOf s8).toNat)
  case atStart => exact ⟨0, by omega, rfl, rfl⟩
  case round =>
    obtain ⟨k, hk, rfl, rfl⟩ := hrel
    by_cases hlt : k < n
    · have hkl : k < l.length := by rw [HN.out]; exact hlt
      obtain ⟨b, hx⟩ : ∃ b, l[k]? = some b := ⟨_, List.getElem?_eq_getElem hkl⟩
      clear hkl
      obtain ⟨g, rfl, hc⟩ := HB.out k b hx
      have HX := Lib.hid (xorL_take l k b hx)
      have HU := Lib.hid (xor_u8 (xorL (l.take k)) b)
      clear hx
      have i0 : (0 : Int) ≤ (k : Int) := by omega
      have i1 : (k : Int) < (n : Int) := by omega
      generalize xorL (l.take k) = z at HX HU ⊢
      go_wp2
      go_round
      case rel => exact ⟨k + 1, by omega, by go_num, by rw [HX.out, ← HU.out]⟩
      case measure => simp [intOf]; omega
    · obtain rfl : k = n := by omega
      have HX : Hid (l.take k = l) := Lib.hid (List.take_of_length_le (by rw [HN.out]; exact Nat.le_refl _))
      rw [HX.out]
      go_wp2
      go_ret
      exact ⟨rfl, rfl⟩
theorem hbytes_any (m : Mk) (w : World) : Calls Tryd.prog 31 #[.agg (mkA m)] w fun e w' =>
    e = .returned (.func (.func 44) #[] #[.pointer (some ⟨w.heap.size, 0, none⟩)]) ∧ w.alloc (.cells (mkA m) 61) = w' := by
  go_enter Tryd.func31, Tryd.ntmps31
  go_wp2
  go_ret
  exact ⟨rfl, rfl⟩
end Go.Proofs.YtmikkbhillkpkaaDoor
