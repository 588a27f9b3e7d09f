/-
  Package arena's variables, the numbers of its errors, Size.
-/
import Derived.Test.YtmikkbhillkpkaaDoorAdK
namespace Go.Proofs.YtmikkbhillkpkaaDoor
open Go.RowKit Go.Lib Go.Shelf
attribute [local go_sem] Oper.semAt_some

/-- Where the listed variables' errors lie. -/
structure VR where
  aA : Addr
  aS : Addr
  aR : Addr
  rN : Addr
  rG : Addr
  rA : Addr
/-- What the variables of packages addr and arena hold. -/
structure RV (w : World) (V : VR) : Prop where
  av : Ad.AV w V.aA V.aS V.aR
  cN : Ad.Sent w 7 V.rN
  cG : Ad.Sent w 1 V.rG
  cA : Ad.Sent w 10 V.rA
  nNG : V.rN ≠ V.rG
  nNA : V.rN ≠ V.rA
  nGA : V.rG ≠ V.rA
theorem RV.below {w w' : World} {V : VR} (h : RV w V) (hb : Below w.heap.size w w') : RV w' V := ⟨h.av.below hb, h.cN.below hb, h.cG.below hb, h.cA.below hb, h.nNG, h.nNA, h.nGA⟩

theorem number_nil (V : VR) (w : World) (hV : RV w V) :
    Calls Tryd.prog 37 #[.iface 118 (.pointer (some V.rN))] w fun e w' => e = .returned (.int .i64 1) ∧ w = w' := by
  have cN := hV.cN.1
  clear hV
  go_enter Tryd.func37, Tryd.ntmps37
  go_wp2_with fail
  refine (is_same V.rN _).mono ?_
  rintro e w' ⟨rfl, rfl⟩
  go_wp2_with fail
  go_ret
  exact ⟨rfl, rfl⟩
theorem number_arg (V : VR) (w : World) (hV : RV w V) :
    Calls Tryd.prog 37 #[.iface 118 (.pointer (some V.rG))] w fun e w' => e = .returned (.int .i64 2) ∧ w = w' := by
  have cN := hV.cN.1
  have cG := hV.cG.1
  obtain ⟨_, bN, tN, hN⟩ := hV.cN
  obtain ⟨_, bG, tG, hG⟩ := hV.cG
  have HO := Lib.hid (is_other V.rG V.rN bG bN tG tN w hV.nNG.symm hG hN)
  clear hV hN hG
  go_enter Tryd.func37, Tryd.ntmps37
  go_wp2_with fail
  refine HO.out.mono ?_
  rintro e w' ⟨rfl, rfl⟩
  go_wp2_with fail
  refine (is_same V.rG _).mono ?_
  rintro e w' ⟨rfl, rfl⟩
  go_wp2_with fail
  go_ret
  exact ⟨rfl, rfl⟩
theorem number_addr (V : VR) (w : World) (hV : RV w V) :
    Calls Tryd.prog 37 #[.iface 118 (.pointer (some V.rA))] w fun e w' => e = .returned (.int .i64 10) ∧ w = w' := by
  have cN := hV.cN.1
  have cG := hV.cG.1
  obtain ⟨_, bN, tN, hN⟩ := hV.cN
  obtain ⟨_, bG, tG, hG⟩ := hV.cG
  obtain ⟨_, bA, tA, hA⟩ := hV.cA
  have HO := Lib.hid (is_other V.rA V.rN bA bN tA tN w hV.nNA.symm hA hN)
  have HP := Lib.hid (is_other V.rA V.rG bA bG tA tG w hV.nGA.symm hA hG)
  clear hV hN hG hA
  go_enter Tryd.func37, Tryd.ntmps37
  go_wp2_with fail
  refine HO.out.mono ?_
  rintro e w' ⟨rfl, rfl⟩
  go_wp2_with fail
  refine HP.out.mono ?_
  rintro e w' ⟨rfl, rfl⟩
  go_wp2_with fail
  go_ret
  exact ⟨rfl, rfl⟩
end Go.Proofs.YtmikkbhillkpkaaDoor
