/-
  head.field.read.
-/
import Derived.Test.YtmikkbhillkpkaaDoorHdG
namespace Go.Proofs.YtmikkbhillkpkaaDoor
open Go.RowKit Go.Lib Go.Shelf
attribute [local go_sem] Oper.semAt_some
set_option linter.unusedSimpArgs false
set_option linter.unusedVariables false

theorem or_i64 (a b : Nat) (ha : a < 4294967296) (hb : b < 4294967296) : bits .or .i64 (a : Int) (b : Int) = ((a ||| b : Nat) : Int) := by
  have hx : a ||| b < 2 ^ 32 := Nat.or_lt_two_pow (by omega) (by omega)
  have h1 : (BitVec.ofInt 64 (a : Int)).toNat = a := by
    rw [BitVec.ofInt_natCast, BitVec.toNat_ofNat]; exact Nat.mod_eq_of_lt (by omega)
  have h2 : (BitVec.ofInt 64 (b : Int)).toNat = b := by
    rw [BitVec.ofInt_natCast, BitVec.toNat_ofNat]; exact Nat.mod_eq_of_lt (by omega)
  show IntKind.i64.wrap ((BitVec.ofInt 64 (a : Int) ||| BitVec.ofInt 64 (b : Int)).toNat : Int) = _
  rw [BitVec.toNat_or, h1, h2]
  exact IntWalk.i64_in _ (by omega)
theorem or_add (a y : Nat) (k : Nat) (h : a < 2 ^ k) : a ||| (y * 2 ^ k) = a + y * 2 ^ k := by
  have := Nat.shiftLeft_add_eq_or_of_lt h y
  rw [Nat.shiftLeft_eq] at this
  rw [Nat.or_comm, ← this, Nat.add_comm]
/-- Eight bytes. -/
abbrev b8 (c0 c1 c2 c3 c4 c5 c6 c7 : UInt8) : ByteArray := ⟨#[c0, c1, c2, c3, c4, c5, c6, c7]⟩
/-- The number of a field. -/
def rdN (c1 c2 c3 c4 c5 c6 : UInt8) : Nat → Nat
  | 0 => c1.toNat
  | 1 => c2.toNat
  | 2 => c3.toNat
  | _ => c4.toNat + 256 * c5.toNat + 65536 * c6.toNat
theorem wr64 (x : Int) (h0 : 0 ≤ x) (h1 : x < 9223372036854775808) : wrap64 x = x := by unfold wrap64; omega
theorem or1_eq (x : UInt8) : Ending.returned (.int .i64 (bits .or .i64 0 (wrap64 (wrap64 (x.toNat : Int))))) = .returned (.int .i64 (x.toNat : Int)) := by
  have hx := x.toNat_lt
  have hor := or_i64 0 x.toNat (by omega) (by omega)
  simp only [Nat.zero_or] at hor
  rw [wr64 (x.toNat : Int) (by omega) (by omega), wr64 (x.toNat : Int) (by omega) (by omega)]
  exact congrArg (fun z => Ending.returned (.int .i64 z)) hor
theorem or3_eq (x y z : UInt8) : Ending.returned (.int .i64 (bits .or .i64 (bits .or .i64 (bits .or .i64 0 (wrap64 (wrap64 (x.toNat : Int)))) (wrap64 (wrap64 (y.toNat : Int) * 256))) (wrap64 (wrap64 (z.toNat : Int) * 65536)))) = .returned (.int .i64 ((x.toNat + 256 * y.toNat + 65536 * z.toNat : Nat) : Int)) := by
  have hx := x.toNat_lt
  have hy := y.toNat_lt
  have hz := z.toNat_lt
  rw [wr64 (x.toNat : Int) (by omega) (by omega), wr64 (x.toNat : Int) (by omega) (by omega), wr64 (y.toNat : Int) (by omega) (by omega), wr64 (z.toNat : Int) (by omega) (by omega), wr64 ((y.toNat : Int) * 256) (by omega) (by omega), wr64 ((z.toNat : Int) * 65536) (by omega) (by omega)]
  have h1 := or_i64 0 x.toNat (by omega) (by omega)
  simp only [Nat.zero_or] at h1
  have h1' : bits .or .i64 0 (x.toNat : Int) = (x.toNat : Int) := h1
  have h2 := or_i64 x.toNat (y.toNat * 2 ^ 8) (by omega) (by omega)
  rw [or_add _ _ 8 (by omega)] at h2
  have h3 := or_i64 (x.toNat + y.toNat * 2 ^ 8) (z.toNat * 2 ^ 16) (by omega) (by omega)
  rw [or_add _ _ 16 (by omega)] at h3
  rw [h1', show (y.toNat : Int) * 256 = ((y.toNat * 2 ^ 8 : Nat) : Int) by omega, h2, show (z.toNat : Int) * 65536 = ((z.toNat * 2 ^ 16 : Nat) : Int) by omega, h3]
  congr 2
  omega
set_option maxHeartbeats 1000000 in
theorem hread_any (k : Nat) (hk : k < 4) (c0 c1 c2 c3 c4 c5 c6 c7 : UInt8) (w : World) :
    Calls Tryd.prog 47 #[.agg (fld k), .string (b8 c0 c1 c2 c3 c4 c5 c6 c7)] w fun e w' => e = .returned (.int .i64 (rdN c1 c2 c3 c4 c5 c6 k : Int)) ∧ Below w.heap.size w w' := by
  have h4 := c4.toNat_lt
  have h5 := c5.toNat_lt
  have h6 := c6.toNat_lt
  match k, hk with
  | 0, _ =>
    dsimp only [fld]
    go_enter Tryd.func47, Tryd.ntmps47
    go_wp2
    refine wp_loop_rounds 2 ?_
    rw [rounds_succ]
    go_wp2
    rw [rounds_succ]
    go_wp2
    go_ret
    exact ⟨or1_eq c1, (Below.refl _ _).alloc (Nat.le_refl _) _⟩
  | 1, _ =>
    dsimp only [fld]
    go_enter Tryd.func47, Tryd.ntmps47
    go_wp2
    refine wp_loop_rounds 2 ?_
    rw [rounds_succ]
    go_wp2
    rw [rounds_succ]
    go_wp2
    go_ret
    exact ⟨or1_eq c2, (Below.refl _ _).alloc (Nat.le_refl _) _⟩
  | 2, _ =>
    dsimp only [fld]
    go_enter Tryd.func47, Tryd.ntmps47
    go_wp2
    refine wp_loop_rounds 2 ?_
    rw [rounds_succ]
    go_wp2
    rw [rounds_succ]
    go_wp2
    go_ret
    exact ⟨or1_eq c3, (Below.refl _ _).alloc (Nat.le_refl _) _⟩
  | 3, _ =>
    dsimp only [fld]
    go_enter Tryd.func47, Tryd.ntmps47
    go_wp2
    refine wp_loop_rounds 4 ?_
    rw [rounds_succ]
    go_wp2
    rw [rounds_succ]
    go_wp2
    rw [rounds_succ]
    go_wp2
    rw [rounds_succ]
    go_wp2
    go_ret
    exact ⟨or3_eq c4 c5 c6, (Below.refl _ _).alloc (Nat.le_refl _) _⟩
end Go.Proofs.YtmikkbhillkpkaaDoor
