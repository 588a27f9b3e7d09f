/-
  selionref03: Load, Store, Write, Zero.
-/
import Derived.Test.YtmikkbhillkpkaaDoorRfA
namespace Go.Proofs.YtmikkbhillkpkaaDoor
open Go.RowKit Go.Lib Go.Shelf
attribute [local go_sem] Oper.semAt_some
set_option linter.unusedSimpArgs false

theorem tm4 (f : Int) : f.tmod 4 = 0 ↔ f % 4 = 0 := ⟨fun h => Int.emod_eq_zero_of_dvd (Int.dvd_of_tmod_eq_zero h), fun h => Int.tmod_eq_zero_of_dvd (Int.dvd_of_emod_eq_zero h)⟩
theorem tm4_in (f : Int) : IntKind.i64.wrap (f.tmod 4) = f.tmod 4 := by
  have h1 := Int.tmod_lt_of_pos f (show (0 : Int) < 4 by omega)
  have h2 := Int.lt_tmod_of_pos f (show (0 : Int) < 4 by omega)
  exact IntWalk.i64_in _ (by omega)
/-- The word so far: the greatest part first. -/
def wv (bs : List UInt8) (i : Nat) : Nat → Nat
  | 0 => 0
  | j + 1 => 256 * wv bs i j + (bs.getD (i + (3 - j)) 0).toNat
theorem wv_lt (bs : List UInt8) (i : Nat) : ∀ j, wv bs i j < 256 ^ j
  | 0 => by simp [wv]
  | j + 1 => by
    have := wv_lt bs i j
    have h8 : (bs.getD (i + (3 - j)) 0).toNat < 256 := UInt8.toNat_lt _
    rw [wv, Nat.pow_succ]
    omega
theorem wv_all (bs : List UInt8) (i : Nat) : wv bs i 4 = word4 bs i := by
  simp only [wv, word4, Nat.sub_zero, Nat.reduceSub, Nat.add_zero]
  omega
theorem wrL_rep (bs : List UInt8) (i j : Nat) (h : i + j < bs.length) : wrL bs i (List.replicate (j + 1) 0) = (wrL bs i (List.replicate j 0)).set (i + j) 0 := by
  have := wrL_snoc bs i (List.replicate j 0) 0 (by simpa using h)
  rw [List.length_replicate, ← List.replicate_succ'] at this
  exact this
theorem w_end {t : TypeId} {w wr : World} {p g : Nat} {bs : List UInt8} {a : Addr} {y : Value} (HS : ArT t (wr.setCell a y) p g bs) (HU : Upd g w (wr.setCell a y)) : ArT t (wr.setCell a y).drew p g bs ∧ Upd g w (wr.setCell a y).drew := ⟨HS.drew, HU.drew⟩
set_option maxRecDepth 100000 in
set_option maxHeartbeats 1000000 in
theorem rwrite_ok (p g : Nat) (bs : List UInt8) (i : Nat) (s : ByteArray) (w : World) (hA : Rr w p g bs) (hi : i + s.size ≤ bs.length) :
    Calls Tryd.prog 24 #[.pointer (some ⟨p, 0, none⟩), .int .i64 (i : Int), .string s] w fun e w' => e = .returned (.int .i64 0) ∧ Rr w' p g (wrL bs i s.data.toList) ∧ Upd g w w' := by
  have HC := Lib.hid (within_ok p g bs i s.size w hA ⟨by omega, by omega, by omega, by omega⟩)
  have hln := hA.len
  have HA := Lib.hid hA
  have HZ := Lib.hid (show s.data.toList.length = s.size from rfl)
  clear hA
  go_enter Tryd.func24, Tryd.ntmps24
  go_wp2_with fail
  ((with_reducible refine HC.out.mono ?_))
  rintro e w' ⟨rfl, rfl⟩
  go_wp2
  go_loopw [7] (fun c wr => ∃ j : Nat, j ≤ s.size ∧ c = .int .i64 (j : Int) ∧ Rr wr p g (wrL bs i (s.data.toList.take j)) ∧ Upd g w wr) (fun c _ => s.size - (intOf c).toNat)
  case atStart => exact ⟨0, by omega, rfl, by rw [List.take_zero, wrL_nil]; exact HA.out, Upd.refl _ _⟩
  case round =>
    obtain ⟨j, hj, rfl, hW, hU⟩ := hrel
    by_cases hlt : j < s.size
    · have hl : (wrL bs i (s.data.toList.take j)).length = bs.length := wrL_len _ _ _ (by rw [List.length_take, HZ.out]; omega)
      have cp : wr.cell? ⟨p, 0, none⟩ = some (.slice (some ⟨g, 0, none⟩) bs.length bs.length) := by rw [← hl]; exact hW.hp.cell rfl
      obtain ⟨x, cb⟩ : ∃ x : Int, wr.cell? ⟨g, i + j, none⟩ = some (.int .u8 x) := ⟨_, hW.cell (i + j) (by omega)⟩
      have fb := hW.hg.frozen (i + j)
      have hset := hW.set (i + j) s[j]
      have htk := wrL_take bs i s.data.toList j (by rw [HZ.out]; exact hlt) (by rw [HZ.out]; exact hi)
      rw [show s.data.toList[j]'(by rw [HZ.out]; exact hlt) = s[j] from rfl] at htk
      rw [← htk] at hset
      have HS := Lib.hid hset
      have HU := Lib.hid (hU.trans (Upd.setCell g (i + j) wr (.int .u8 (s[j].toNat : Int))))
      have b0 : decide ((j : Int) < (s.size : Int)) = true := by simp; omega
      have b0' : decide (j < s.size) = true := by simpa using hlt
      have i0 : (0 : Int) ≤ (i : Int) + (j : Int) := by omega
      have i1 : (i : Int) + (j : Int) < (bs.length : Int) := by omega
      have i2 : (0 : Int) ≤ (j : Int) := by omega
      have i3 : (j : Int) < (s.size : Int) := by omega
      have e0 : IntKind.i64.wrap ((i : Int) + (j : Int)) = (i : Int) + (j : Int) := IntWalk.i64_in _ (by omega)
      have e1 : ((i : Int) + (j : Int)).toNat = i + j := by omega
      clear hl hset hU hW htk
      go_wp2
      go_region
      go_wp2
      exact ⟨⟨j + 1, by omega, by go_num, w_end HS.out HU.out⟩, by simp [intOf]; omega⟩
    · obtain rfl : j = s.size := by omega
      rw [List.take_of_length_le (by rw [HZ.out]; omega)] at hW
      have HW := Lib.hid hW
      have HU := Lib.hid hU
      clear hW hU
      go_wp2
      go_ret
      exact ⟨rfl, HW.out, HU.out⟩
end Go.Proofs.YtmikkbhillkpkaaDoor
