/-
  arena: Store.
-/
import Derived.Test.YtchaojdjgbeepaaDoorArE
namespace Go.Proofs.YtchaojdjgbeepaaDoor
open Go.RowKit Go.Lib Go.Shelf
attribute [local go_sem] Oper.semAt_some

/-- The j-th byte of a word. -/
def byteOf (v j : Nat) : UInt8 := UInt8.ofNat (v / 256 ^ j % 256)
/-- A word's four bytes, the least part first. -/
def bytes4 (v : Nat) : List UInt8 := [byteOf v 0, byteOf v 1, byteOf v 2, byteOf v 3]
theorem bytes4_len (v : Nat) : (bytes4 v).length = 4 := rfl
theorem bytes4_get (v j : Nat) (h : j < 4) : (bytes4 v)[j]'h = byteOf v j := by
  match j, h with
  | 0, _ => rfl
  | 1, _ => rfl
  | 2, _ => rfl
  | 3, _ => rfl
theorem byteOf_nat (v j : Nat) : ((byteOf v j).toNat : Int) = (v : Int) / 256 ^ j % 256 := by
  unfold byteOf
  rw [UInt8.toNat_ofNat']
  simp

theorem wrL_take (bs : List UInt8) (i : Nat) (l : List UInt8) (j : Nat) (hj : j < l.length) (h : i + l.length ≤ bs.length) : wrL bs i (l.take (j + 1)) = (wrL bs i (l.take j)).set (i + j) l[j] := by
  have hl : (l.take j).length = j := by simp; omega
  have := wrL_snoc bs i (l.take j) l[j] (by omega)
  rw [hl] at this
  rw [← this, List.take_succ_eq_append_getElem hj]
theorem wrL4 (bs : List UInt8) (i v j : Nat) (hj : j < 4) (h : i + 4 ≤ bs.length) : wrL bs i ((bytes4 v).take (j + 1)) = (wrL bs i ((bytes4 v).take j)).set (i + j) (byteOf v j) := by
  rw [wrL_take _ _ _ _ hj h, bytes4_get v j hj]
theorem ArT.drew {t : TypeId} {w : World} {p g : Nat} {bs : List UInt8} (h : ArT t w p g bs) : ArT t w.drew p g bs := ⟨h.ne, h.hp.drew, h.hg.drew, h.len⟩
theorem Upd.drew {g : Nat} {w w' : World} (h : Upd g w w') : Upd g w w'.drew := ⟨h.os, h.tape, h.output, h.size, h.block⟩
theorem st_end {t : TypeId} {w wr : World} {p g i o v j : Nat} {bs : List UInt8} {y : Int} (HS : ArT t (wr.setCell ⟨g, i + j, none⟩ (.int .u8 ((v : Int) / 256 ^ j % 256))) p g bs) (HU : Upd g w wr) (ho : o = i + j) (hy : y = (v : Int) / 256 ^ j % 256) :
    ArT t (wr.setCell ⟨g, o, none⟩ (.int .u8 y)).drew p g bs ∧ Upd g w (wr.setCell ⟨g, o, none⟩ (.int .u8 y)).drew := by
  subst ho hy
  exact ⟨HS.drew, (HU.trans (Upd.setCell g _ wr _)).drew⟩
theorem store_bad (V : VR) (p g : Nat) (bs : List UInt8) (f : Int) (v : Int) (w : World) (hV : RV w V) (hA : Ar w p g bs) (hf : InI f) (h : ¬ okB bs.length f 4 4) :
    Calls Tryd.prog 25 #[.pointer (some ⟨p, 0, none⟩), .int .i64 f, .int .u32 v] w fun e w' => e = .returned (.int .i64 10) ∧ Below w.heap.size w w' := by
  have HR := Lib.hid (rdy_bad V p g bs f 4 4 w hV hA (.inr rfl) hf h)
  have HV := Lib.hid hV
  clear hV hA hf h
  go_enter Tryd.func25, Tryd.ntmps25
  go_wp2_with fail
  ((with_reducible refine HR.out.mono ?_))
  rintro e w1 ⟨rfl, hb⟩
  have HB := Lib.hid hb
  clear hb
  go_wp2_with fail
  ((with_reducible refine (number_addr V _ (HV.out.below HB.out)).mono ?_))
  rintro e w' ⟨rfl, rfl⟩
  go_wp2
  go_ret
  exact ⟨rfl, HB.out⟩
set_option maxRecDepth 100000 in
set_option maxHeartbeats 2000000 in
theorem store_ok (p g : Nat) (bs : List UInt8) (i : Nat) (v : Nat) (w : World) (hA : Ar w p g bs) (hv : v < 4294967296) (hi : i + 4 ≤ bs.length) (h4 : i % 4 = 0) :
    Calls Tryd.prog 25 #[.pointer (some ⟨p, 0, none⟩), .int .i64 (i : Int), .int .u32 (v : Int)] w fun e w' => e = .returned (.int .i64 0) ∧ Ar w' p g (wrL bs i (bytes4 v)) ∧ Upd g w w' := by
  have HR := Lib.hid (rdy_ok p g bs i 4 4 w hA (.inr rfl) ⟨by omega, by omega, by omega, by omega⟩)
  have HA := Lib.hid hA
  have hln := hA.len
  clear hA h4
  go_enter Tryd.func25, Tryd.ntmps25
  go_wp2_with fail
  ((with_reducible refine HR.out.mono ?_))
  rintro e w1 ⟨rfl, hb⟩
  have HA1 := Lib.hid (HA.out.below hb)
  have HU1 := Lib.hid (Upd.of_below (g := g) hb)
  clear hb
  go_wp2
  go_loopw [18] (fun c wr => ∃ j : Nat, j ≤ 4 ∧ c = .int .i64 (j : Int) ∧ Ar wr p g (wrL bs i ((bytes4 v).take j)) ∧ Upd g w wr) (fun c _ => 4 - (intOf c).toNat)
  case atStart => exact ⟨0, by omega, rfl, by rw [List.take_zero, wrL_nil]; exact HA1.out, HU1.out⟩
  case round =>
    obtain ⟨j, hj, rfl, hW, hU⟩ := hrel
    by_cases hlt : j < 4
    · have hl : (wrL bs i ((bytes4 v).take j)).length = bs.length := wrL_len _ _ _ (by simp [bytes4_len]; omega)
      have cp : wr.cell? ⟨p, 0, none⟩ = some (.slice (some ⟨g, 0, none⟩) bs.length bs.length) := by rw [← hl]; exact hW.hp.cell rfl
      obtain ⟨x, cb⟩ : ∃ x : Int, wr.cell? ⟨g, i + j, none⟩ = some (.int .u8 x) := ⟨_, hW.cell (i + j) (by omega)⟩
      have fb := hW.hg.frozen (i + j)
      have hset := hW.set (i + j) (byteOf v j)
      rw [← wrL4 bs i v j hlt hi, byteOf_nat] at hset
      have HS := Lib.hid hset
      have HU := Lib.hid hU
      have i0 : (0 : Int) ≤ (i : Int) + (j : Int) := by omega
      have i1 : (i : Int) + (j : Int) < (bs.length : Int) := by omega
      have e0 : IntKind.i64.wrap ((i : Int) + (j : Int)) = (i : Int) + (j : Int) := IntWalk.i64_in _ (by omega)
      have e1 : ((i : Int) + (j : Int)).toNat = i + j := by omega
      clear hl hset hU hW
      have hjj : j = 0 ∨ j = 1 ∨ j = 2 ∨ j = 3 := by omega
      rcases hjj with rfl | rfl | rfl | rfl
      · simp only [Nat.add_zero] at cb fb
        go_wp2
        go_region
        go_wp2
        exact ⟨⟨1, by omega, rfl, st_end HS.out HU.out (by omega) (by omega)⟩, by simp [intOf]⟩
      · go_wp2
        go_region
        go_wp2
        exact ⟨⟨2, by omega, rfl, st_end HS.out HU.out (by omega) (by omega)⟩, by simp [intOf]⟩
      · go_wp2
        go_region
        go_wp2
        exact ⟨⟨3, by omega, rfl, st_end HS.out HU.out (by omega) (by omega)⟩, by simp [intOf]⟩
      · go_wp2
        go_region
        go_wp2
        exact ⟨⟨4, by omega, rfl, st_end HS.out HU.out (by omega) (by omega)⟩, by simp [intOf]⟩
    · obtain rfl : j = 4 := by omega
      have HW := Lib.hid hW
      have HU := Lib.hid hU
      clear hW hU
      go_wp2
      go_ret
      exact ⟨rfl, HW.out, HU.out⟩
end Go.Proofs.YtchaojdjgbeepaaDoor
