/-
  selionref03: New, within, Count, Byte, Put, Read.
-/
import Derived.Test.YtchaojdjgbeepaaDoorArJ
namespace Go.Proofs.YtchaojdjgbeepaaDoor
open Go.RowKit Go.Lib Go.Shelf
attribute [local go_sem] Oper.semAt_some

/-- The reference's arena in block p; its bytes lie in block g. -/
abbrev Rr (w : World) (p g : Nat) (bs : List UInt8) : Prop := ArT 50 w p g bs
theorem within_ok (p g : Nat) (bs : List UInt8) (f k : Int) (w : World) (hA : Rr w p g bs) (h : okB bs.length f k 1) :
    Calls Tryd.prog 45 #[.pointer (some ⟨p, 0, none⟩), .int .i64 f, .int .i64 k] w fun e w' => e = .returned (.bool true) ∧ w = w' := by
  obtain ⟨h0, h1, h2, _⟩ := h
  have hln := hA.len
  have cp : w.cell? ⟨p, 0, none⟩ = some (.slice (some ⟨g, 0, none⟩) bs.length bs.length) := hA.hp.cell rfl
  clear hA
  obtain ⟨N, hN⟩ : ∃ N, bs.length = N := ⟨_, rfl⟩
  rw [hN] at cp h2 hln
  have b0 : decide (0 ≤ f) = true := by simpa using h0
  have b1 : decide (0 ≤ k) = true := by simpa using h1
  have b2 : decide (f ≤ (N : Int)) = true := by simp; omega
  have b3 : decide (k ≤ (N : Int) - f) = true := by simpa using h2
  have e1 : IntKind.i64.wrap ((N : Int) - f) = (N : Int) - f := IntWalk.i64_in _ (by omega)
  clear hN
  go_enter Tryd.func45, Tryd.ntmps45
  go_wp2
  go_ret
  exact ⟨rfl, rfl⟩
theorem within_no (p g : Nat) (bs : List UInt8) (f k : Int) (w : World) (hA : Rr w p g bs) (hf : InI f) (h : ¬ okB bs.length f k 1) :
    Calls Tryd.prog 45 #[.pointer (some ⟨p, 0, none⟩), .int .i64 f, .int .i64 k] w fun e w' => e = .returned (.bool false) ∧ w = w' := by
  obtain ⟨hf1, hf2⟩ := hf
  have hln := hA.len
  have cp : w.cell? ⟨p, 0, none⟩ = some (.slice (some ⟨g, 0, none⟩) bs.length bs.length) := hA.hp.cell rfl
  clear hA
  obtain ⟨N, hN⟩ : ∃ N, bs.length = N := ⟨_, rfl⟩
  unfold okB at h
  rw [hN] at cp h hln
  clear hN
  by_cases h0 : 0 ≤ f
  · have b0 : decide (0 ≤ f) = true := by simpa using h0
    by_cases h1 : 0 ≤ k
    · have b1 : decide (0 ≤ k) = true := by simpa using h1
      by_cases h2 : f ≤ (N : Int)
      · have b2 : decide (f ≤ (N : Int)) = true := by simpa using h2
        have h3 : ¬ k ≤ (N : Int) - f := by omega
        have b3 : decide (k ≤ (N : Int) - f) = false := by simpa using h3
        have e1 : IntKind.i64.wrap ((N : Int) - f) = (N : Int) - f := IntWalk.i64_in _ (by omega)
        clear h
        go_enter Tryd.func45, Tryd.ntmps45
        go_wp2
        go_ret
        exact ⟨rfl, rfl⟩
      · have b2 : decide (f ≤ (N : Int)) = false := by simpa using h2
        clear h
        go_enter Tryd.func45, Tryd.ntmps45
        go_wp2
        go_ret
        exact ⟨rfl, rfl⟩
    · have b1 : decide (0 ≤ k) = false := by simpa using h1
      clear h
      go_enter Tryd.func45, Tryd.ntmps45
      go_wp2
      go_ret
      exact ⟨rfl, rfl⟩
  · have b0 : decide (0 ≤ f) = false := by simpa using h0
    clear h
    go_enter Tryd.func45, Tryd.ntmps45
    go_wp2
    go_ret
    exact ⟨rfl, rfl⟩
theorem rnew_bad (n : Int) (w : World) (h : n < 1 ∨ 32 < n) :
    Calls Tryd.prog 17 #[.int .i64 n] w fun e w' => e = .returned (.tuple #[.pointer none, .int .i64 2]) ∧ w = w' := by
  by_cases h1 : n < 1
  · clear h
    go_enter Tryd.func17, Tryd.ntmps17
    go_wp2
    go_ret2
    exact ⟨rfl, rfl⟩
  · have h2 : 32 < n := by omega
    clear h
    go_enter Tryd.func17, Tryd.ntmps17
    go_wp2
    go_ret2
    exact ⟨rfl, rfl⟩
theorem rnew_ok (b : Nat) (w : World) (h0 : 1 ≤ b) (h1 : b ≤ 32) :
    Calls Tryd.prog 17 #[.int .i64 (b : Int)] w fun e w' => ∃ p g, e = .returned (.tuple #[.pointer (some ⟨p, 0, none⟩), .int .i64 0]) ∧ Rr w' p g (zer (4096 * b)) ∧ Below w.heap.size w w' ∧ w.heap.size ≤ g ∧ w.heap.size ≤ p := by
  have hmk := mkB (4096 * b) (by omega)
  have hN : (4096 * b : Nat) ≤ 131072 := by omega
  have he : IntKind.i64.wrap ((b : Int) * 4096) = ((4096 * b : Nat) : Int) := by rw [IntWalk.i64_in _ (by omega)]; omega
  have he2 : (b : Int) * 4096 = ((4096 * b : Nat) : Int) := by omega
  generalize 4096 * b = N at hmk hN he he2 ⊢
  go_enter Tryd.func17, Tryd.ntmps17
  go_wp2
  go_ret2
  obtain ⟨b0, b1, hb, _⟩ := blk2 w (zbytes N) #[.slice (some ⟨w.heap.size, 0, none⟩) N N] 5 50
  exact ⟨w.heap.size + 1, w.heap.size, rfl, ⟨by omega, by rw [zer_len]; exact b1, by rw [← zbytes_eq]; exact b0, by rw [zer_len]; omega⟩, hb, Nat.le_refl _, by omega⟩
theorem cntB_take (bs : List UInt8) (x : Nat) (h : x < bs.length) : cntB (bs.take (x + 1)) = cntB (bs.take x) + if bs[x].toNat = 0 then 0 else 1 := by
  rw [List.take_succ_eq_append_getElem h, cntB_app]
  congr 1
  unfold cntB
  by_cases h : bs[x].toNat = 0
  · rw [if_pos h]
    have : bs[x] = 0 := by rw [← UInt8.toNat_inj]; simpa using h
    rw [this]
    rfl
  · rw [if_neg h]
    have : bs[x] ≠ 0 := fun e => h (by rw [e]; rfl)
    simp [this]
set_option maxRecDepth 100000 in
set_option maxHeartbeats 1000000 in
theorem rcount_ok (p g : Nat) (bs : List UInt8) (w : World) (hA : Rr w p g bs) :
    Calls Tryd.prog 22 #[.pointer (some ⟨p, 0, none⟩)] w fun e w' => e = .returned (.int .i64 (cntB bs : Int)) ∧ w = w' := by
  have hln := hA.len
  have cp : w.cell? ⟨p, 0, none⟩ = some (.slice (some ⟨g, 0, none⟩) bs.length bs.length) := hA.hp.cell rfl
  have HA := Lib.hid hA
  clear hA
  obtain ⟨N, hN⟩ : ∃ N, bs.length = N := ⟨_, rfl⟩
  rw [hN] at cp hln
  have HN := Lib.hid hN
  clear hN
  go_enter Tryd.func22, Tryd.ntmps22
  go_wp2
  go_loop [3, 4] (fun n i => ∃ x : Nat, x ≤ N ∧ i = .int .i64 (x : Int) ∧ n = .int .i64 (cntB (bs.take x) : Int)) (fun _ i => N - (intOf i).toNat)
  case atStart => exact ⟨0, Nat.zero_le _, rfl, rfl⟩
  case round =>
    obtain ⟨x, hx, rfl, rfl⟩ := hrel
    have hd : cntB (bs.take x) ≤ (bs.take x).length := List.countP_le_length
    have hll : (bs.take x).length ≤ x := List.length_take_le _ _
    by_cases hlt : x < N
    · have hxl : x < bs.length := by rw [HN.out]; exact hlt
      have cb := HA.out.cell x hxl
      have HSn := Lib.hid (cntB_take bs x hxl)
      have b0 : decide ((x : Int) < (N : Int)) = true := by simp; omega
      have b0' : decide (x < N) = true := by simpa using hlt
      have hx8 : bs[x].toNat < 256 := bs[x].toNat_lt
      generalize bs[x].toNat = y at cb HSn hx8
      clear hxl
      by_cases hz : y = 0
      · have hzb : ((y : Int) != 0) = false := by simpa using hz
        rw [if_pos hz] at HSn
        clear hz
        go_wp2
        go_round
        case rel => exact ⟨x + 1, by omega, by go_num, by rw [HSn.out]; rfl⟩
        case measure => simp [intOf]; omega
      · have hzb : ((y : Int) != 0) = true := by simpa using hz
        rw [if_neg hz] at HSn
        clear hz
        go_wp2
        go_round
        case rel => exact ⟨x + 1, by omega, by go_num, by rw [HSn.out]; go_num⟩
        case measure => simp [intOf]; omega
    · obtain rfl : x = N := by omega
      have e5 : bs.take x = bs := List.take_of_length_le (by rw [HN.out]; omega)
      have b0 : decide ((x : Int) < (x : Int)) = false := by simp
      rw [e5]
      clear e5
      go_wp2
      go_ret
      exact ⟨rfl, rfl⟩
theorem rbyte_bad (p g : Nat) (bs : List UInt8) (f : Int) (w : World) (hA : Rr w p g bs) (hf : InI f) (h : ¬ okB bs.length f 1 1) :
    Calls Tryd.prog 33 #[.pointer (some ⟨p, 0, none⟩), .int .i64 f] w fun e w' => e = .returned (.tuple #[.int .i64 0, .int .i64 10]) ∧ w = w' := by
  have HC := Lib.hid (within_no p g bs f (1) w hA hf h)
  clear hA hf h
  go_enter Tryd.func33, Tryd.ntmps33
  go_wp2_with fail
  ((with_reducible refine HC.out.mono ?_))
  rintro e w' ⟨rfl, rfl⟩
  go_wp2
  go_ret2
  exact ⟨rfl, rfl⟩
theorem rput_bad (p g : Nat) (bs : List UInt8) (f v : Int) (w : World) (hA : Rr w p g bs) (hf : InI f) (h : ¬ okB bs.length f 1 1) :
    Calls Tryd.prog 34 #[.pointer (some ⟨p, 0, none⟩), .int .i64 f, .int .i64 v] w fun e w' => e = .returned (.int .i64 10) ∧ w = w' := by
  have HC := Lib.hid (within_no p g bs f (1) w hA hf h)
  clear hA hf h
  go_enter Tryd.func34, Tryd.ntmps34
  go_wp2_with fail
  ((with_reducible refine HC.out.mono ?_))
  rintro e w' ⟨rfl, rfl⟩
  go_wp2
  go_ret
  exact ⟨rfl, rfl⟩
theorem rread_bad (p g : Nat) (bs : List UInt8) (f k : Int) (w : World) (hA : Rr w p g bs) (hf : InI f) (h : ¬ okB bs.length f k 1) :
    Calls Tryd.prog 35 #[.pointer (some ⟨p, 0, none⟩), .int .i64 f, .int .i64 k] w fun e w' => e = .returned (.tuple #[.string ⟨#[]⟩, .int .i64 10]) ∧ w = w' := by
  have HC := Lib.hid (within_no p g bs f (k) w hA hf h)
  clear hA hf h
  go_enter Tryd.func35, Tryd.ntmps35
  go_wp2_with fail
  ((with_reducible refine HC.out.mono ?_))
  rintro e w' ⟨rfl, rfl⟩
  go_wp2
  go_ret2
  exact ⟨rfl, rfl⟩
theorem rwrite_bad (p g : Nat) (bs : List UInt8) (f : Int) (s : ByteArray) (w : World) (hA : Rr w p g bs) (hf : InI f) (h : ¬ okB bs.length f (s.size : Int) 1) :
    Calls Tryd.prog 36 #[.pointer (some ⟨p, 0, none⟩), .int .i64 f, .string s] w fun e w' => e = .returned (.int .i64 10) ∧ w = w' := by
  have HC := Lib.hid (within_no p g bs f ((s.size : Int)) w hA hf h)
  clear hA hf h
  go_enter Tryd.func36, Tryd.ntmps36
  go_wp2_with fail
  ((with_reducible refine HC.out.mono ?_))
  rintro e w' ⟨rfl, rfl⟩
  go_wp2
  go_ret
  exact ⟨rfl, rfl⟩
theorem rzero_bad (p g : Nat) (bs : List UInt8) (f k : Int) (w : World) (hA : Rr w p g bs) (hf : InI f) (h : ¬ okB bs.length f k 1) :
    Calls Tryd.prog 37 #[.pointer (some ⟨p, 0, none⟩), .int .i64 f, .int .i64 k] w fun e w' => e = .returned (.int .i64 10) ∧ w = w' := by
  have HC := Lib.hid (within_no p g bs f (k) w hA hf h)
  clear hA hf h
  go_enter Tryd.func37, Tryd.ntmps37
  go_wp2_with fail
  ((with_reducible refine HC.out.mono ?_))
  rintro e w' ⟨rfl, rfl⟩
  go_wp2
  go_ret
  exact ⟨rfl, rfl⟩
theorem rbyte_ok (p g : Nat) (bs : List UInt8) (i : Nat) (w : World) (hA : Rr w p g bs) (hi : i < bs.length) :
    Calls Tryd.prog 33 #[.pointer (some ⟨p, 0, none⟩), .int .i64 (i : Int)] w fun e w' => e = .returned (.tuple #[.int .i64 (bs[i].toNat : Int), .int .i64 0]) ∧ w = w' := by
  have HC := Lib.hid (within_ok p g bs i 1 w hA ⟨by omega, by omega, by omega, by omega⟩)
  have cp : w.cell? ⟨p, 0, none⟩ = some (.slice (some ⟨g, 0, none⟩) bs.length bs.length) := hA.hp.cell rfl
  have cb := hA.cell i hi
  have hx8 : bs[i].toNat < 256 := bs[i].toNat_lt
  generalize bs[i].toNat = x at cb hx8 ⊢
  clear hA
  go_enter Tryd.func33, Tryd.ntmps33
  go_wp2_with fail
  ((with_reducible refine HC.out.mono ?_))
  rintro e w' ⟨rfl, rfl⟩
  go_wp2
  go_ret2
  exact ⟨rfl, rfl⟩
theorem rput_no0 (p g : Nat) (bs : List UInt8) (i : Nat) (v : Int) (w : World) (hA : Rr w p g bs) (hi : i < bs.length) (hv : v < 0) :
    Calls Tryd.prog 34 #[.pointer (some ⟨p, 0, none⟩), .int .i64 (i : Int), .int .i64 v] w fun e w' => e = .returned (.int .i64 2) ∧ w = w' := by
  have HC := Lib.hid (within_ok p g bs i 1 w hA ⟨by omega, by omega, by omega, by omega⟩)
  clear hA
  go_enter Tryd.func34, Tryd.ntmps34
  go_wp2_with fail
  ((with_reducible refine HC.out.mono ?_))
  rintro e w' ⟨rfl, rfl⟩
  go_wp2
  go_ret
  exact ⟨rfl, rfl⟩
theorem rput_no1 (p g : Nat) (bs : List UInt8) (i : Nat) (v : Int) (w : World) (hA : Rr w p g bs) (hi : i < bs.length) (hv : 255 < v) :
    Calls Tryd.prog 34 #[.pointer (some ⟨p, 0, none⟩), .int .i64 (i : Int), .int .i64 v] w fun e w' => e = .returned (.int .i64 2) ∧ w = w' := by
  have HC := Lib.hid (within_ok p g bs i 1 w hA ⟨by omega, by omega, by omega, by omega⟩)
  clear hA
  have h0 : ¬ v < 0 := by omega
  go_enter Tryd.func34, Tryd.ntmps34
  go_wp2_with fail
  ((with_reducible refine HC.out.mono ?_))
  rintro e w' ⟨rfl, rfl⟩
  go_wp2
  go_ret
  exact ⟨rfl, rfl⟩
theorem rput_no (p g : Nat) (bs : List UInt8) (i : Nat) (v : Int) (w : World) (hA : Rr w p g bs) (hi : i < bs.length) (hv : v < 0 ∨ 255 < v) :
    Calls Tryd.prog 34 #[.pointer (some ⟨p, 0, none⟩), .int .i64 (i : Int), .int .i64 v] w fun e w' => e = .returned (.int .i64 2) ∧ w = w' := by
  by_cases h : v < 0
  · exact rput_no0 p g bs i v w hA hi h
  · exact rput_no1 p g bs i v w hA hi (by omega)
theorem rput_ok (p g : Nat) (bs : List UInt8) (i : Nat) (v : UInt8) (w : World) (hA : Rr w p g bs) (hi : i < bs.length) :
    Calls Tryd.prog 34 #[.pointer (some ⟨p, 0, none⟩), .int .i64 (i : Int), .int .i64 (v.toNat : Int)] w fun e w' => e = .returned (.int .i64 0) ∧ Rr w' p g (bs.set i v) ∧ Upd g w w' := by
  have HC := Lib.hid (within_ok p g bs i 1 w hA ⟨by omega, by omega, by omega, by omega⟩)
  have cp : w.cell? ⟨p, 0, none⟩ = some (.slice (some ⟨g, 0, none⟩) bs.length bs.length) := hA.hp.cell rfl
  have cb := hA.cell i hi
  have fb := hA.hg.frozen i
  have hW := hA.set i v
  have hU := Upd.setCell g i w (.int .u8 (v.toNat : Int))
  have hx : v.toNat < 256 := v.toNat_lt
  generalize hX : v.toNat = x at hW hU hx ⊢
  have HW := Lib.hid hW
  have HU := Lib.hid hU
  clear hA hW hU hX
  go_enter Tryd.func34, Tryd.ntmps34
  go_wp2_with fail
  ((with_reducible refine HC.out.mono ?_))
  rintro e w' ⟨rfl, rfl⟩
  go_wp2
  go_ret
  exact ⟨rfl, HW.out, HU.out⟩
theorem rread_ok (p g : Nat) (bs : List UInt8) (i k : Nat) (w : World) (hA : Rr w p g bs) (hi : i + k ≤ bs.length) :
    Calls Tryd.prog 35 #[.pointer (some ⟨p, 0, none⟩), .int .i64 (i : Int), .int .i64 (k : Int)] w fun e w' => e = .returned (.tuple #[.string ⟨((bs.drop i).take k).toArray⟩, .int .i64 0]) ∧ w = w' := by
  have HC := Lib.hid (within_ok p g bs i k w hA ⟨by omega, by omega, by omega, by omega⟩)
  have hln := hA.len
  have cp : w.cell? ⟨p, 0, none⟩ = some (.slice (some ⟨g, 0, none⟩) bs.length bs.length) := hA.hp.cell rfl
  have hc := run_cut g i k bs.length hi w
  have ht := run_text hA i k hi
  generalize (⟨((bs.drop i).take k).toArray⟩ : ByteArray) = X at ht ⊢
  clear hA
  go_enter Tryd.func35, Tryd.ntmps35
  go_wp2_with fail
  ((with_reducible refine HC.out.mono ?_))
  rintro e w' ⟨rfl, rfl⟩
  go_wp2
  go_ret2
  exact ⟨rfl, rfl⟩
end Go.Proofs.YtchaojdjgbeepaaDoor
