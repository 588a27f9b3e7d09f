/-
  selionlaw06.HeadByte: the law.
-/
import Derived.Test.YtmikkbhillkpkaaDoorHdV
import Derived.Test.YtmikkbhillkpkaaDoorHdW
namespace Go.Proofs.YtmikkbhillkpkaaDoor
open Go.RowKit Go.Lib Go.Shelf
set_option linter.unusedSimpArgs false
set_option linter.unusedVariables false

theorem cut_list (l : List UInt8) (n : Nat) (x : UInt8) : ((⟨l.toArray⟩ : ByteArray).extract 0 n ++ ⟨#[x]⟩ ++ (⟨l.toArray⟩ : ByteArray).extract (n + 1) (⟨l.toArray⟩ : ByteArray).size).data.toList = l.take n ++ [x] ++ l.drop (n + 1) := by
  have h : (⟨l.toArray⟩ : ByteArray).size = l.length := rfl
  rw [h]
  simp [ByteArray.data_append, ByteArray.data_extract]
  exact List.take_of_length_le (by simp)
theorem get_list (l : List UInt8) (n : Nat) (h : n < (⟨l.toArray⟩ : ByteArray).size) : l[n]? = some ((⟨l.toArray⟩ : ByteArray)[n]'h) := List.getElem?_eq_getElem (l := l) h
theorem lawHeadByte (x : Mk) (i d : Int) (w : World) (V : HR) (hV : HV w V) : Calls Tryd.prog 4 #[.agg (mkA x), .int .i64 i, .int .i64 d] w fun e w' => e = .returned (.bool true) ∧ Below w.heap.size w w' := by
  rcases mk_split x with hx | ⟨K, L, C, E, rfl, hK, hL, hC, hE⟩
  · exact byte_n _ _ _ _ _ _ (fun W V h => henc_no x hx W V h) w V hV
  · have hA := fun W V h => henc_yes K L C E hK hL hC hE W V h
    have hS := hd8_size K L C E
    rcases (by omega : i < 0 ∨ 8 ≤ i ∨ (0 ≤ i ∧ i < 8)) with h | h | h
    · exact byte_i0 _ _ _ _ _ _ _ hS h hA w V hV
    · exact byte_i8 _ _ _ _ _ _ _ hS h hA w V hV
    · rcases (by omega : d < 1 ∨ 255 < d ∨ (1 ≤ d ∧ d ≤ 255)) with hd | hd | hd
      · exact byte_d0 _ _ _ _ _ _ _ hS h hd hA w V hV
      · exact byte_d9 _ _ _ _ _ _ _ hS h hd hA w V hV
      · have hbb : i.toNat < (⟨(hd8 K L C E).toArray⟩ : ByteArray).size := by rw [hS]; omega
        have hdd : ((UInt8.ofNat d.toNat).toNat : Int) = d := by
          rw [UInt8.toNat_ofNat']
          omega
        have hd0 : UInt8.ofNat d.toNat ≠ 0 := fun h0 => by
          rw [h0] at hdd
          simp at hdd
          omega
        refine byte_in _ _ _ _ i d _ hS ((⟨(hd8 K L C E).toArray⟩ : ByteArray)[i.toNat]'hbb ^^^ UInt8.ofNat d.toNat) _ _ rfl rfl h hd hbb ?_ ?_ hA w V hV
        · rw [← xor_u8, hdd]
        · intro W V hV
          refine hDec_none _ ?_ W V hV
          rw [show (i + 1).toNat = i.toNat + 1 by omega, cut_list]
          refine decL_xor ?_
          rw [xorL_set _ _ _ _ (get_list _ _ hbb), xorL_hd8, UInt8.zero_xor]
          exact hd0
end Go.Proofs.YtmikkbhillkpkaaDoor
