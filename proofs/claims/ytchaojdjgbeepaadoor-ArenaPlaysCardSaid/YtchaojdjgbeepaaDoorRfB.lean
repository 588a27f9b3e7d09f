/-
  selionref03: Load, Store, Write, Zero.
-/
import Derived.Test.YtchaojdjgbeepaaDoorRfA
namespace Go.Proofs.YtchaojdjgbeepaaDoor
open Go.RowKit Go.Lib Go.Shelf
attribute [local go_sem] Oper.semAt_some
set_option linter.unusedSimpArgs false

theorem tm4 (f : Int) : f.tmod 4 = 0 ↔ f % 4 = 0 := ⟨fun h => Int.emod_eq_zero_of_dvd (Int.dvd_of_tmod_eq_zero h), fun h => Int.tmod_eq_zero_of_dvd (Int.dvd_of_emod_eq_zero h)⟩
theorem tm4_in (f : Int) : IntKind.i64.wrap (f.tmod 4) = f.tmod 4 := by
  have h1 := Int.tmod_lt_of_pos f (show (0 : Int) < 4 by omega)
  have h2 := Int.lt_tmod_of_pos f (show (0 : Int) < 4 by omega)
  exact IntWalk.i64_in _ (by omega)
set_option maxRecDepth 100000 in
set_option maxHeartbeats 1000000 in
theorem rload_bad (p g : Nat) (bs : List UInt8) (f : Int) (w : World) (hA : Rr w p g bs) (hf : InI f) (h : ¬ okB bs.length f 4 4) :
    Calls Tryd.prog 31 #[.pointer (some ⟨p, 0, none⟩), .int .i64 f] w fun e w' => e = .returned (.tuple #[.int .u32 0, .int .i64 10]) ∧ w = w' := by
  have e1 := tm4_in f
  by_cases h1 : f.tmod 4 = 0
  · have h2 : ¬ okB bs.length f 4 1 := fun k => h ⟨k.1, k.2.1, k.2.2.1, (tm4 f).1 h1⟩
    have HC := Lib.hid (within_no p g bs f 4 w hA hf h2)
    have b1 : (f.tmod 4 != 0) = false := by simpa using h1
    clear hA hf h h1 h2
    go_enter Tryd.func31, Tryd.ntmps31
    go_wp2_with fail
    ((with_reducible refine HC.out.mono ?_))
    rintro e w' ⟨rfl, rfl⟩
    go_wp2
    go_ret2
    exact ⟨rfl, rfl⟩
  · have b1 : (f.tmod 4 != 0) = true := by simpa using h1
    clear hA hf h h1
    go_enter Tryd.func31, Tryd.ntmps31
    go_wp2
    go_ret2
    exact ⟨rfl, rfl⟩
set_option maxRecDepth 100000 in
set_option maxHeartbeats 1000000 in
theorem rstore_bad (p g : Nat) (bs : List UInt8) (f v : Int) (w : World) (hA : Rr w p g bs) (hf : InI f) (h : ¬ okB bs.length f 4 4) :
    Calls Tryd.prog 32 #[.pointer (some ⟨p, 0, none⟩), .int .i64 f, .int .u32 v] w fun e w' => e = .returned (.int .i64 10) ∧ w = w' := by
  have e1 := tm4_in f
  by_cases h1 : f.tmod 4 = 0
  · have h2 : ¬ okB bs.length f 4 1 := fun k => h ⟨k.1, k.2.1, k.2.2.1, (tm4 f).1 h1⟩
    have HC := Lib.hid (within_no p g bs f 4 w hA hf h2)
    have b1 : (f.tmod 4 != 0) = false := by simpa using h1
    clear hA hf h h1 h2
    go_enter Tryd.func32, Tryd.ntmps32
    go_wp2_with fail
    ((with_reducible refine HC.out.mono ?_))
    rintro e w' ⟨rfl, rfl⟩
    go_wp2
    go_ret
    exact ⟨rfl, rfl⟩
  · have b1 : (f.tmod 4 != 0) = true := by simpa using h1
    clear hA hf h h1
    go_enter Tryd.func32, Tryd.ntmps32
    go_wp2
    go_ret
    exact ⟨rfl, rfl⟩
/-- The word so far: the greatest part first. -/
def wv (bs : List UInt8) (i : Nat) : Nat → Nat
  | 0 => 0
  | j + 1 => 256 * wv bs i j + (bs.getD (i + (3 - j)) 0).toNat
theorem wv_lt (bs : List UInt8) (i : Nat) : ∀ j, wv bs i j < 256 ^ j
  | 0 => by simp [wv]
  | j + 1 => by
    have := wv_lt bs i j
    have h8 : (bs.getD (i + (3 - j)) 0).toNat < 256 := UInt8.toNat_lt _
    rw [wv, Nat.pow_succ]
    omega
theorem wv_all (bs : List UInt8) (i : Nat) : wv bs i 4 = word4 bs i := by
  simp only [wv, word4, Nat.sub_zero, Nat.reduceSub, Nat.add_zero]
  omega
set_option maxRecDepth 100000 in
set_option maxHeartbeats 1000000 in
theorem rload_ok (p g : Nat) (bs : List UInt8) (i : Nat) (w : World) (hA : Rr w p g bs) (hi : i + 4 ≤ bs.length) (h4 : i % 4 = 0) :
    Calls Tryd.prog 31 #[.pointer (some ⟨p, 0, none⟩), .int .i64 (i : Int)] w fun e w' => e = .returned (.tuple #[.int .u32 (word4 bs i : Int), .int .i64 0]) ∧ w = w' := by
  have HC := Lib.hid (within_ok p g bs i 4 w hA ⟨by omega, by omega, by omega, by omega⟩)
  have hln := hA.len
  have cp : w.cell? ⟨p, 0, none⟩ = some (.slice (some ⟨g, 0, none⟩) bs.length bs.length) := hA.hp.cell rfl
  have HA := Lib.hid hA
  have HWV := Lib.hid (wv_all bs i)
  have f4 : (i : Int) % 4 = 0 := by omega
  have f5 : (i : Int).tmod 4 = 0 := (tm4 _).2 f4
  have b1 : ((i : Int) % 4 != 0) = false := by simpa using f4
  have b2 : ((i : Int).tmod 4 != 0) = false := by simpa using f5
  clear hA h4 f4 f5
  go_enter Tryd.func31, Tryd.ntmps31
  go_wp2_with fail
  ((with_reducible refine HC.out.mono ?_))
  rintro e w' ⟨rfl, rfl⟩
  go_wp2
  go_loop [6, 7] (fun v c => ∃ j : Nat, j ≤ 4 ∧ c = .int .i64 (3 - (j : Int)) ∧ v = .int .u32 (wv bs i j : Int)) (fun _ c => (intOf c + 1).toNat)
  case atStart => exact ⟨0, by omega, rfl, rfl⟩
  case round =>
    obtain ⟨j, hj, rfl, rfl⟩ := hrel
    by_cases hlt : j < 4
    · have hb := wv_lt bs i j
      have hw : wv bs i (j + 1) = 256 * wv bs i j + (bs.getD (i + (3 - j)) 0).toNat := rfl
      have cb := HA.out.cell (i + (3 - j)) (by omega)
      rw [List.getD, List.getElem?_eq_getElem (by omega)] at hw
      simp only [Option.getD_some] at hw
      have hx : (bs[i + (3 - j)]'(by omega)).toNat < 256 := UInt8.toNat_lt _
      generalize (bs[i + (3 - j)]'(by omega)).toNat = x at cb hw hx
      generalize wv bs i j = c at hb hw ⊢
      have hc : c < 16777216 := by
        have h3 : 256 ^ j ≤ 256 ^ 3 := Nat.pow_le_pow_right (by omega) (by omega)
        have h4 : (256 : Nat) ^ 3 = 16777216 := rfl
        omega
      have HW := Lib.hid hw
      clear hw hb
      have hjj : j = 0 ∨ j = 1 ∨ j = 2 ∨ j = 3 := by omega
      rcases hjj with rfl | rfl | rfl | rfl
      · rw [show (3 - ((0 : Nat) : Int)) = 3 from rfl]
        simp only [Nat.reduceSub, Nat.sub_zero, Nat.sub_self, Nat.add_zero] at cb
        have e0 : IntKind.i64.wrap ((i : Int) + 3) = (i : Int) + 3 := IntWalk.i64_in _ (by omega)
        have e1 : ((i : Int) + 3).toNat = i + 3 := by omega
        go_wp2
        go_round
        case rel => exact ⟨1, by omega, by first | rfl | go_num, by rw [HW.out]; go_num⟩
        case measure => simp [intOf]
      · rw [show (3 - ((1 : Nat) : Int)) = 2 from rfl]
        simp only [Nat.reduceSub, Nat.sub_zero, Nat.sub_self, Nat.add_zero] at cb
        have e0 : IntKind.i64.wrap ((i : Int) + 2) = (i : Int) + 2 := IntWalk.i64_in _ (by omega)
        have e1 : ((i : Int) + 2).toNat = i + 2 := by omega
        go_wp2
        go_round
        case rel => exact ⟨2, by omega, by first | rfl | go_num, by rw [HW.out]; go_num⟩
        case measure => simp [intOf]
      · rw [show (3 - ((2 : Nat) : Int)) = 1 from rfl]
        simp only [Nat.reduceSub, Nat.sub_zero, Nat.sub_self, Nat.add_zero] at cb
        have e0 : IntKind.i64.wrap ((i : Int) + 1) = (i : Int) + 1 := IntWalk.i64_in _ (by omega)
        have e1 : ((i : Int) + 1).toNat = i + 1 := by omega
        go_wp2
        go_round
        case rel => exact ⟨3, by omega, by first | rfl | go_num, by rw [HW.out]; go_num⟩
        case measure => simp [intOf]
      · rw [show (3 - ((3 : Nat) : Int)) = 0 from rfl]
        simp only [Nat.reduceSub, Nat.sub_zero, Nat.sub_self, Nat.add_zero] at cb
        have e0 : IntKind.i64.wrap ((i : Int) + 0) = (i : Int) + 0 := IntWalk.i64_in _ (by omega)
        have e1 : ((i : Int) + 0).toNat = i + 0 := by omega
        go_wp2
        go_round
        case rel => exact ⟨4, by omega, by first | rfl | go_num, by rw [HW.out]; go_num⟩
        case measure => simp [intOf]
    · obtain rfl : j = 4 := by omega
      rw [show (3 - ((4 : Nat) : Int)) = -1 from rfl, HWV.out]
      go_wp2
      go_ret2
      exact ⟨rfl, rfl⟩
set_option maxRecDepth 100000 in
set_option maxHeartbeats 1000000 in
theorem rstore_ok (p g : Nat) (bs : List UInt8) (i : Nat) (v : Nat) (w : World) (hA : Rr w p g bs) (hv : v < 4294967296) (hi : i + 4 ≤ bs.length) (h4 : i % 4 = 0) :
    Calls Tryd.prog 32 #[.pointer (some ⟨p, 0, none⟩), .int .i64 (i : Int), .int .u32 (v : Int)] w fun e w' => e = .returned (.int .i64 0) ∧ Rr w' p g (wrL bs i (bytes4 v)) ∧ Upd g w w' := by
  have HC := Lib.hid (within_ok p g bs i 4 w hA ⟨by omega, by omega, by omega, by omega⟩)
  have hln := hA.len
  have HA := Lib.hid hA
  have f4 : (i : Int) % 4 = 0 := by omega
  have f5 : (i : Int).tmod 4 = 0 := (tm4 _).2 f4
  have b1 : ((i : Int) % 4 != 0) = false := by simpa using f4
  have b2 : ((i : Int).tmod 4 != 0) = false := by simpa using f5
  clear hA h4 f4 f5
  go_enter Tryd.func32, Tryd.ntmps32
  go_wp2_with fail
  ((with_reducible refine HC.out.mono ?_))
  rintro e w' ⟨rfl, rfl⟩
  go_wp2
  go_loopw [2, 7] (fun u c wr => ∃ j : Nat, j ≤ 4 ∧ c = .int .i64 (j : Int) ∧ u = .int .u32 ((v / 256 ^ j : Nat) : Int) ∧ Rr wr p g (wrL bs i ((bytes4 v).take j)) ∧ Upd g w wr) (fun _ c _ => 4 - (intOf c).toNat)
  case atStart => exact ⟨0, by omega, rfl, by simp, by rw [List.take_zero, wrL_nil]; exact HA.out, Upd.refl _ _⟩
  case round =>
    obtain ⟨j, hj, rfl, rfl, hW, hU⟩ := hrel
    by_cases hlt : j < 4
    · have hl : (wrL bs i ((bytes4 v).take j)).length = bs.length := wrL_len _ _ _ (by simp [bytes4_len]; omega)
      have cp : wr.cell? ⟨p, 0, none⟩ = some (.slice (some ⟨g, 0, none⟩) bs.length bs.length) := by rw [← hl]; exact hW.hp.cell rfl
      obtain ⟨x, cb⟩ : ∃ x : Int, wr.cell? ⟨g, i + j, none⟩ = some (.int .u8 x) := ⟨_, hW.cell (i + j) (by omega)⟩
      have fb := hW.hg.frozen (i + j)
      have hset := hW.set (i + j) (byteOf v j)
      have hdv : v / 256 ^ (j + 1) = v / 256 ^ j / 256 := by rw [Nat.pow_succ, Nat.div_div_eq_div_mul]
      have hby : ((byteOf v j).toNat : Int) = ((v / 256 ^ j : Nat) : Int) % 256 := by rw [byteOf_nat]; push_cast; rfl
      rw [← wrL4 bs i v j hlt hi, hby] at hset
      have hy : v / 256 ^ j < 4294967296 := Nat.lt_of_le_of_lt (Nat.div_le_self _ _) hv
      generalize v / 256 ^ j = y at hset hdv hy ⊢
      have HS := Lib.hid hset
      have HD := Lib.hid hdv
      have HU := Lib.hid (hU.trans (Upd.setCell g (i + j) wr (.int .u8 ((y : Int) % 256))))
      have i0 : (0 : Int) ≤ (i : Int) + (j : Int) := by omega
      have i1 : (i : Int) + (j : Int) < (bs.length : Int) := by omega
      have e0 : IntKind.i64.wrap ((i : Int) + (j : Int)) = (i : Int) + (j : Int) := IntWalk.i64_in _ (by omega)
      have e1 : ((i : Int) + (j : Int)).toNat = i + j := by omega
      clear hl hset hU hW hdv hby
      go_wp2
      go_roundw
      case rel => exact ⟨j + 1, by omega, by go_num, by rw [HD.out]; go_num, HS.out, HU.out⟩
      case measure => simp [intOf]; omega
    · obtain rfl : j = 4 := by omega
      have HW := Lib.hid hW
      have HU := Lib.hid hU
      clear hW hU
      go_wp2
      go_ret
      exact ⟨rfl, HW.out, HU.out⟩
theorem wrL_rep (bs : List UInt8) (i j : Nat) (h : i + j < bs.length) : wrL bs i (List.replicate (j + 1) 0) = (wrL bs i (List.replicate j 0)).set (i + j) 0 := by
  have := wrL_snoc bs i (List.replicate j 0) 0 (by simpa using h)
  rw [List.length_replicate, ← List.replicate_succ'] at this
  exact this
set_option maxRecDepth 100000 in
set_option maxHeartbeats 1000000 in
theorem rzero_ok (p g : Nat) (bs : List UInt8) (i k : Nat) (w : World) (hA : Rr w p g bs) (hi : i + k ≤ bs.length) :
    Calls Tryd.prog 37 #[.pointer (some ⟨p, 0, none⟩), .int .i64 (i : Int), .int .i64 (k : Int)] w fun e w' => e = .returned (.int .i64 0) ∧ Rr w' p g (wrL bs i (List.replicate k 0)) ∧ Upd g w w' := by
  have HC := Lib.hid (within_ok p g bs i k w hA ⟨by omega, by omega, by omega, by omega⟩)
  have hln := hA.len
  have HA := Lib.hid hA
  clear hA
  go_enter Tryd.func37, Tryd.ntmps37
  go_wp2_with fail
  ((with_reducible refine HC.out.mono ?_))
  rintro e w' ⟨rfl, rfl⟩
  go_wp2
  go_loopw [7] (fun c wr => ∃ j : Nat, j ≤ k ∧ c = .int .i64 (j : Int) ∧ Rr wr p g (wrL bs i (List.replicate j 0)) ∧ Upd g w wr) (fun c _ => k - (intOf c).toNat)
  case atStart => exact ⟨0, by omega, rfl, by rw [List.replicate_zero, wrL_nil]; exact HA.out, Upd.refl _ _⟩
  case round =>
    obtain ⟨j, hj, rfl, hW, hU⟩ := hrel
    by_cases hlt : j < k
    · have hl : (wrL bs i (List.replicate j 0)).length = bs.length := wrL_len _ _ _ (by simp; omega)
      have cp : wr.cell? ⟨p, 0, none⟩ = some (.slice (some ⟨g, 0, none⟩) bs.length bs.length) := by rw [← hl]; exact hW.hp.cell rfl
      obtain ⟨x, cb⟩ : ∃ x : Int, wr.cell? ⟨g, i + j, none⟩ = some (.int .u8 x) := ⟨_, hW.cell (i + j) (by omega)⟩
      have fb := hW.hg.frozen (i + j)
      have hset := hW.set (i + j) 0
      rw [← wrL_rep bs i j (by omega), show (((0 : UInt8).toNat : Nat) : Int) = 0 from rfl] at hset
      have HS := Lib.hid hset
      have HU := Lib.hid (hU.trans (Upd.setCell g (i + j) wr (.int .u8 0)))
      have b0 : decide ((j : Int) < (k : Int)) = true := by simp; omega
      have b0' : decide (j < k) = true := by simpa using hlt
      have i0 : (0 : Int) ≤ (i : Int) + (j : Int) := by omega
      have i1 : (i : Int) + (j : Int) < (bs.length : Int) := by omega
      have e0 : IntKind.i64.wrap ((i : Int) + (j : Int)) = (i : Int) + (j : Int) := IntWalk.i64_in _ (by omega)
      have e1 : ((i : Int) + (j : Int)).toNat = i + j := by omega
      clear hl hset hU hW
      go_wp2
      go_roundw
      case rel => exact ⟨j + 1, by omega, by go_num, HS.out, HU.out⟩
      case measure => simp [intOf]; omega
    · obtain rfl : j = k := by omega
      have HW := Lib.hid hW
      have HU := Lib.hid hU
      clear hW hU
      go_wp2
      go_ret
      exact ⟨rfl, HW.out, HU.out⟩
theorem w_end {t : TypeId} {w wr : World} {p g : Nat} {bs : List UInt8} {a : Addr} {y : Value} (HS : ArT t (wr.setCell a y) p g bs) (HU : Upd g w (wr.setCell a y)) : ArT t (wr.setCell a y).drew p g bs ∧ Upd g w (wr.setCell a y).drew := ⟨HS.drew, HU.drew⟩
set_option maxRecDepth 100000 in
set_option maxHeartbeats 1000000 in
theorem rwrite_ok (p g : Nat) (bs : List UInt8) (i : Nat) (s : ByteArray) (w : World) (hA : Rr w p g bs) (hi : i + s.size ≤ bs.length) :
    Calls Tryd.prog 36 #[.pointer (some ⟨p, 0, none⟩), .int .i64 (i : Int), .string s] w fun e w' => e = .returned (.int .i64 0) ∧ Rr w' p g (wrL bs i s.data.toList) ∧ Upd g w w' := by
  have HC := Lib.hid (within_ok p g bs i s.size w hA ⟨by omega, by omega, by omega, by omega⟩)
  have hln := hA.len
  have HA := Lib.hid hA
  have HZ := Lib.hid (show s.data.toList.length = s.size from rfl)
  clear hA
  go_enter Tryd.func36, Tryd.ntmps36
  go_wp2_with fail
  ((with_reducible refine HC.out.mono ?_))
  rintro e w' ⟨rfl, rfl⟩
  go_wp2
  go_loopw [7] (fun c wr => ∃ j : Nat, j ≤ s.size ∧ c = .int .i64 (j : Int) ∧ Rr wr p g (wrL bs i (s.data.toList.take j)) ∧ Upd g w wr) (fun c _ => s.size - (intOf c).toNat)
  case atStart => exact ⟨0, by omega, rfl, by rw [List.take_zero, wrL_nil]; exact HA.out, Upd.refl _ _⟩
  case round =>
    obtain ⟨j, hj, rfl, hW, hU⟩ := hrel
    by_cases hlt : j < s.size
    · have hl : (wrL bs i (s.data.toList.take j)).length = bs.length := wrL_len _ _ _ (by rw [List.length_take, HZ.out]; omega)
      have cp : wr.cell? ⟨p, 0, none⟩ = some (.slice (some ⟨g, 0, none⟩) bs.length bs.length) := by rw [← hl]; exact hW.hp.cell rfl
      obtain ⟨x, cb⟩ : ∃ x : Int, wr.cell? ⟨g, i + j, none⟩ = some (.int .u8 x) := ⟨_, hW.cell (i + j) (by omega)⟩
      have fb := hW.hg.frozen (i + j)
      have hset := hW.set (i + j) s[j]
      have htk := wrL_take bs i s.data.toList j (by rw [HZ.out]; exact hlt) (by rw [HZ.out]; exact hi)
      rw [show s.data.toList[j]'(by rw [HZ.out]; exact hlt) = s[j] from rfl] at htk
      rw [← htk] at hset
      have HS := Lib.hid hset
      have HU := Lib.hid (hU.trans (Upd.setCell g (i + j) wr (.int .u8 (s[j].toNat : Int))))
      have b0 : decide ((j : Int) < (s.size : Int)) = true := by simp; omega
      have b0' : decide (j < s.size) = true := by simpa using hlt
      have i0 : (0 : Int) ≤ (i : Int) + (j : Int) := by omega
      have i1 : (i : Int) + (j : Int) < (bs.length : Int) := by omega
      have i2 : (0 : Int) ≤ (j : Int) := by omega
      have i3 : (j : Int) < (s.size : Int) := by omega
      have e0 : IntKind.i64.wrap ((i : Int) + (j : Int)) = (i : Int) + (j : Int) := IntWalk.i64_in _ (by omega)
      have e1 : ((i : Int) + (j : Int)).toNat = i + j := by omega
      clear hl hset hU hW htk
      go_wp2
      go_region
      go_wp2
      exact ⟨⟨j + 1, by omega, by go_num, w_end HS.out HU.out⟩, by simp [intOf]; omega⟩
    · obtain rfl : j = s.size := by omega
      rw [List.take_of_length_le (by rw [HZ.out]; omega)] at hW
      have HW := Lib.hid hW
      have HU := Lib.hid hU
      clear hW hU
      go_wp2
      go_ret
      exact ⟨rfl, HW.out, HU.out⟩
end Go.Proofs.YtchaojdjgbeepaaDoor
