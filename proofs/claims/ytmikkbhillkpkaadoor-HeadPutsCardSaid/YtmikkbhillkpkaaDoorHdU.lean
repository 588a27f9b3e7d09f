/-
  A head's bytes: eight, one by one; a byte changed is no head.
-/
import Derived.Test.YtmikkbhillkpkaaDoorHdS
namespace Go.Proofs.YtmikkbhillkpkaaDoor
open Go.RowKit Go.Lib Go.Shelf
set_option linter.unusedSimpArgs false
set_option linter.unusedVariables false

theorem byteN_eq {v u j : Nat} (h : byteN v j = byteN u j) : v / 256 ^ j % 256 = u / 256 ^ j % 256 := by
  have h1 := congrArg UInt8.toNat h
  simpa [byteN, UInt8.toNat_ofNat'] using h1
theorem hd8_inj {K L C E K' L' C' E' : Nat} (hK : K ≤ 60) (hL : L ≤ 40000) (hC : C ≤ 3) (hE : E ≤ 255) (hK' : K' ≤ 60) (hL' : L' ≤ 40000) (hC' : C' ≤ 3) (hE' : E' ≤ 255) (h : hd8 K L C E = hd8 K' L' C' E') : K = K' ∧ L = L' ∧ C = C' ∧ E = E' := by
  simp only [hd8, hd7, List.cons_append, List.nil_append, List.cons.injEq] at h
  obtain ⟨_, h1, h2, h3, h4, h5, h6, _⟩ := h
  have e1 := byteN_eq h1
  have e2 := byteN_eq h2
  have e3 := byteN_eq h3
  have e4 := byteN_eq h4
  have e5 := byteN_eq h5
  have e6 := byteN_eq h6
  simp only [Nat.pow_zero, Nat.pow_one, Nat.div_one] at e1 e2 e3 e4 e5
  simp only [show 256 ^ 2 = 65536 by decide] at e6
  refine ⟨by omega, by omega, by omega, by omega⟩
theorem hd8_len (K L C E : Nat) : (hd8 K L C E).length = 8 := by simp [hd8, hd7]
/-- Bytes whose xor is not 0 are no head. -/
theorem xorL_hd8 (K L C E : Nat) : xorL (hd8 K L C E) = 0 := by
  rw [hd8, xorL_snoc, UInt8.xor_self]
theorem decL_xor {l : List UInt8} (h : xorL l ≠ 0) : decL l = none := by
  unfold decL
  split
  · rename_i c0 c1 c2 c3 c4 c5 c6 c7
    rw [if_neg]
    rintro ⟨_, he⟩
    exact h (by rw [he, xorL_hd8])
  · rfl
theorem foldl_xor (l : List UInt8) (a : UInt8) : l.foldl (· ^^^ ·) a = a ^^^ xorL l := by
  induction l generalizing a with
  | nil => simp [xorL]
  | cons b l ih => rw [List.foldl_cons, ih, show xorL (b :: l) = List.foldl (· ^^^ ·) (0 ^^^ b) l from rfl, ih (0 ^^^ b)]; simp [UInt8.xor_assoc]
theorem xorL_app (a b : List UInt8) : xorL (a ++ b) = xorL a ^^^ xorL b := by rw [xorL, List.foldl_append, foldl_xor]; rfl
theorem xorL_set (l : List UInt8) (k : Nat) (b d : UInt8) (h : l[k]? = some b) : xorL (l.take k ++ [b ^^^ d] ++ l.drop (k + 1)) = xorL l ^^^ d := by
  obtain ⟨h1, h2⟩ := List.getElem?_eq_some_iff.1 h
  have hs : l = l.take k ++ [b] ++ l.drop (k + 1) := by
    rw [List.append_assoc, List.singleton_append, ← h2, ← List.drop_eq_getElem_cons h1, List.take_append_drop]
  conv => rhs; rw [hs]
  simp only [xorL_app]
  have e : xorL [b ^^^ d] = xorL [b] ^^^ d := by simp [xorL]
  rw [e]
  simp only [UInt8.xor_assoc, UInt8.xor_comm d]
/-- Every head is right and natural, or not right. -/
theorem mk_split (m : Mk) : rightB m = false ∨ ∃ K L C E : Nat, m = mkN K L C E ∧ (1 ≤ K ∧ K ≤ 60) ∧ L ≤ 40000 ∧ (1 ≤ C ∧ C ≤ 3) ∧ E ≤ 255 := by
  cases h : rightB m with
  | false => exact Or.inl rfl
  | true =>
    right
    obtain ⟨k, l, c, e⟩ := m
    simp [rightB, inFld] at h
    refine ⟨k.toNat, l.toNat, c.toNat, e.toNat, ?_, ?_, ?_, ?_, ?_⟩
    · simp only [mkN]
      rw [Int.toNat_of_nonneg (by omega), Int.toNat_of_nonneg (by omega), Int.toNat_of_nonneg (by omega), Int.toNat_of_nonneg (by omega)]
    · omega
    · omega
    · omega
    · omega
end Go.Proofs.YtmikkbhillkpkaaDoor
