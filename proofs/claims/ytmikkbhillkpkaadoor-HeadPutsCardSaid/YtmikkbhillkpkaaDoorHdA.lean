/-
  Package head's variables, the numbers of its errors; the field's methods; the next epoch.
-/
import Derived.Test.YtmikkbhillkpkaaDoorAdA
import Derived.Test.YtmikkbhillkpkaaDoorGen
import Derived.Shelf.Abstract
import Derived.Shelf.RegionOpen
import Derived.Deep.MidRow
import Derived.IntWalk
import Derived.Lib.Hide
import Derived.WalkKit
import Derived.Outline
import Derived.LoopTactic
namespace Go.Proofs.YtmikkbhillkpkaaDoor
open Go.RowKit Go.Lib Go.Shelf
attribute [local go_sem] Oper.semAt_some
set_option linter.unusedSimpArgs false
set_option linter.unusedVariables false

/-- A head's numbers. -/
structure Mk where
  k : Int
  l : Int
  c : Int
  e : Int
/-- A head in memory. -/
abbrev mkA (m : Mk) : Array Value := #[.int .i64 m.k, .int .i64 m.l, .int .i64 m.c, .int .i64 m.e]
/-- The fields in memory. -/
abbrev fld : Nat → Array Value
  | 0 => #[.int .i64 1, .int .i64 1, .int .i64 1, .int .i64 60]
  | 1 => #[.int .i64 2, .int .i64 1, .int .i64 1, .int .i64 3]
  | 2 => #[.int .i64 3, .int .i64 1, .int .i64 0, .int .i64 255]
  | _ => #[.int .i64 4, .int .i64 3, .int .i64 0, .int .i64 40000]
def fieldsL : List Value := [.int .i64 1, .int .i64 1, .int .i64 1, .int .i64 60, .int .i64 2, .int .i64 1, .int .i64 1, .int .i64 3, .int .i64 3, .int .i64 1, .int .i64 0, .int .i64 255, .int .i64 4, .int .i64 3, .int .i64 0, .int .i64 40000]
/-- Where the listed variables' errors lie. -/
structure HR where
  hN : Addr
  hA : Addr
  hH : Addr
/-- What the variables of package head hold. -/
structure HV (w : World) (V : HR) : Prop where
  cN : Ad.Sent w 2 V.hN
  cA : Ad.Sent w 3 V.hA
  cH : Ad.Sent w 0 V.hH
  nNA : V.hN ≠ V.hA
  nNH : V.hN ≠ V.hH
  nAH : V.hA ≠ V.hH
  fl : w.rangeAt 4 0 fieldsL
theorem HV.below {w w' : World} {V : HR} (h : HV w V) (hb : Below w.heap.size w w') : HV w' V := ⟨h.cN.below hb, h.cA.below hb, h.cH.below hb, h.nNA, h.nNH, h.nAH, fun j v hj => cell_below (h.fl j v hj) hb⟩

theorem hnum_nil (V : HR) (w : World) (hV : HV w V) :
    Calls Tryd.prog 30 #[.iface 118 (.pointer (some V.hN))] w fun e w' => e = .returned (.int .i64 1) ∧ w = w' := by
  have cN := hV.cN.1
  clear hV
  go_enter Tryd.func30, Tryd.ntmps30
  go_wp2_with fail
  refine (is_same V.hN _).mono ?_
  rintro e w' ⟨rfl, rfl⟩
  go_wp2_with fail
  go_ret
  exact ⟨rfl, rfl⟩
theorem hnum_addr (V : HR) (w : World) (hV : HV w V) :
    Calls Tryd.prog 30 #[.iface 118 (.pointer (some V.hA))] w fun e w' => e = .returned (.int .i64 10) ∧ w = w' := by
  have cN := hV.cN.1
  have cG := hV.cA.1
  obtain ⟨_, bN, tN, hN⟩ := hV.cN
  obtain ⟨_, bG, tG, hG⟩ := hV.cA
  have HO := Lib.hid (is_other V.hA V.hN bG bN tG tN w hV.nNA.symm hG hN)
  clear hV hN hG
  go_enter Tryd.func30, Tryd.ntmps30
  go_wp2_with fail
  refine HO.out.mono ?_
  rintro e w' ⟨rfl, rfl⟩
  go_wp2_with fail
  refine (is_same V.hA _).mono ?_
  rintro e w' ⟨rfl, rfl⟩
  go_wp2_with fail
  go_ret
  exact ⟨rfl, rfl⟩
theorem hnum_head (V : HR) (w : World) (hV : HV w V) :
    Calls Tryd.prog 30 #[.iface 118 (.pointer (some V.hH))] w fun e w' => e = .returned (.int .i64 60) ∧ w = w' := by
  have cN := hV.cN.1
  have cG := hV.cA.1
  obtain ⟨_, bN, tN, hN⟩ := hV.cN
  obtain ⟨_, bG, tG, hG⟩ := hV.cA
  obtain ⟨_, bA, tA, hA⟩ := hV.cH
  have HO := Lib.hid (is_other V.hH V.hN bA bN tA tN w hV.nNH.symm hA hN)
  have HP := Lib.hid (is_other V.hH V.hA bA bG tA tG w hV.nAH.symm hA hG)
  clear hV hN hG hA
  go_enter Tryd.func30, Tryd.ntmps30
  go_wp2_with fail
  refine HO.out.mono ?_
  rintro e w' ⟨rfl, rfl⟩
  go_wp2_with fail
  refine HP.out.mono ?_
  rintro e w' ⟨rfl, rfl⟩
  go_wp2_with fail
  go_ret
  exact ⟨rfl, rfl⟩

/-- A number in a field? -/
def inFld (k : Nat) (v : Int) : Bool := match k with
  | 0 => decide (1 ≤ v ∧ v ≤ 60)
  | 1 => decide (1 ≤ v ∧ v ≤ 3)
  | 2 => decide (0 ≤ v ∧ v ≤ 255)
  | _ => decide (0 ≤ v ∧ v ≤ 40000)
theorem holds_b (a d lo hi v : Int) (w : World) : Calls Tryd.prog 35 #[.agg #[.int .i64 a, .int .i64 d, .int .i64 lo, .int .i64 hi], .int .i64 v] w fun e w' =>
    e = .returned (.bool (decide (lo ≤ v ∧ v ≤ hi))) ∧ Below w.heap.size w w' := by
  by_cases h1 : lo ≤ v
  · by_cases h2 : v ≤ hi
    · have d1 : decide (lo ≤ v) = true := by simpa using h1
      have d2 : decide (v ≤ hi) = true := by simpa using h2
      have d3 : decide (lo ≤ v ∧ v ≤ hi) = true := by simp [h1, h2]
      rw [d3]
      clear h1 h2 d3
      go_enter Tryd.func35, Tryd.ntmps35
      go_wp2
      go_ret
      exact ⟨rfl, (Below.refl _ _).alloc (Nat.le_refl _) _⟩
    · have d1 : decide (lo ≤ v) = true := by simpa using h1
      have d2 : decide (v ≤ hi) = false := by simpa using h2
      have d3 : decide (lo ≤ v ∧ v ≤ hi) = false := by simp [h1, h2]
      rw [d3]
      clear h1 h2 d3
      go_enter Tryd.func35, Tryd.ntmps35
      go_wp2
      go_ret
      exact ⟨rfl, (Below.refl _ _).alloc (Nat.le_refl _) _⟩
  · have d1 : decide (lo ≤ v) = false := by simpa using h1
    have d3 : decide (lo ≤ v ∧ v ≤ hi) = false := by simp [h1]
    rw [d3]
    clear h1 d3
    go_enter Tryd.func35, Tryd.ntmps35
    go_wp2
    go_ret
    exact ⟨rfl, (Below.refl _ _).alloc (Nat.le_refl _) _⟩
theorem holds_any (k : Nat) (hk : k < 4) (v : Int) (w : World) : Calls Tryd.prog 35 #[.agg (fld k), .int .i64 v] w fun e w' =>
    e = .returned (.bool (inFld k v)) ∧ Below w.heap.size w w' := by
  match k, hk with
  | 0, _ => exact holds_b _ _ _ _ v w
  | 1, _ => exact holds_b _ _ _ _ v w
  | 2, _ => exact holds_b _ _ _ _ v w
  | 3, _ => exact holds_b _ _ _ _ v w

/-- A byte of a number. -/
def byteN (v j : Nat) : UInt8 := UInt8.ofNat (v / 256 ^ j % 256)
theorem byteN_nat (v j : Nat) : ((byteN v j).toNat : Int) = (v : Int) / 256 ^ j % 256 := by
  simp [byteN, UInt8.toNat_ofNat']
set_option maxHeartbeats 1000000 in
theorem part_any (a d lo hi : Int) (v j : Nat) (hv : v ≤ 40000) (hj : j < 3) (w : World) : Calls Tryd.prog 45 #[.agg #[.int .i64 a, .int .i64 d, .int .i64 lo, .int .i64 hi], .int .i64 (v : Int), .int .i64 (j : Int)] w fun e w' =>
    e = .returned (.int .u8 ((byteN v j).toNat : Int)) ∧ Below w.heap.size w w' := by
  rw [byteN_nat]
  match j, hj with
  | 0, _ =>
    go_enter Tryd.func45, Tryd.ntmps45
    go_wp2
    go_ret
    exact ⟨by simp, (Below.refl _ _).alloc (Nat.le_refl _) _⟩
  | 1, _ =>
    go_enter Tryd.func45, Tryd.ntmps45
    go_wp2
    go_ret
    exact ⟨by simp; omega, (Below.refl _ _).alloc (Nat.le_refl _) _⟩
  | 2, _ =>
    go_enter Tryd.func45, Tryd.ntmps45
    go_wp2
    go_ret
    exact ⟨by simp; omega, (Below.refl _ _).alloc (Nat.le_refl _) _⟩

/-- The next epoch. -/
def turnZ (e : Int) : Int := if 0 ≤ e ∧ e < 255 then e + 1 else 0
theorem turn_any (e : Int) (w : World) : Calls Tryd.prog 17 #[.int .i64 e] w fun en w' => en = .returned (.int .i64 (turnZ e)) ∧ w = w' := by
  by_cases h0 : e < 0
  · rw [turnZ, if_neg (by omega)]
    have d0 : decide (e < 0) = true := by simpa using h0
    go_enter Tryd.func17, Tryd.ntmps17
    go_wp2
    go_ret
    exact ⟨rfl, rfl⟩
  · have d0 : decide (e < 0) = false := by simpa using h0
    by_cases h1 : 255 ≤ e
    · rw [turnZ, if_neg (by omega)]
      have d1 : decide (255 ≤ e) = true := by simpa using h1
      go_enter Tryd.func17, Tryd.ntmps17
      go_wp2
      go_ret
      exact ⟨rfl, rfl⟩
    · rw [turnZ, if_pos (by omega)]
      have d1 : decide (255 ≤ e) = false := by simpa using h1
      have e0 : 0 ≤ e := by omega
      have e1 : e ≤ 254 := by omega
      clear h0 h1
      go_enter Tryd.func17, Tryd.ntmps17
      go_wp2
      go_ret
      exact ⟨rfl, rfl⟩
end Go.Proofs.YtmikkbhillkpkaaDoor
