/-
  selionref03: New, within, Count, Byte, Put, Read.
-/
import Derived.Test.YtmikkbhillkpkaaDoorArJ
namespace Go.Proofs.YtmikkbhillkpkaaDoor
open Go.RowKit Go.Lib Go.Shelf
attribute [local go_sem] Oper.semAt_some

/-- The reference's arena in block p; its bytes lie in block g. -/
abbrev Rr (w : World) (p g : Nat) (bs : List UInt8) : Prop := ArT 52 w p g bs
theorem within_ok (p g : Nat) (bs : List UInt8) (f k : Int) (w : World) (hA : Rr w p g bs) (h : okB bs.length f k 1) :
    Calls Tryd.prog 40 #[.pointer (some ⟨p, 0, none⟩), .int .i64 f, .int .i64 k] w fun e w' => e = .returned (.bool true) ∧ w = w' := by
  obtain ⟨h0, h1, h2, _⟩ := h
  have hln := hA.len
  have cp : w.cell? ⟨p, 0, none⟩ = some (.slice (some ⟨g, 0, none⟩) bs.length bs.length) := hA.hp.cell rfl
  clear hA
  obtain ⟨N, hN⟩ : ∃ N, bs.length = N := ⟨_, rfl⟩
  rw [hN] at cp h2 hln
  have b0 : decide (0 ≤ f) = true := by simpa using h0
  have b1 : decide (0 ≤ k) = true := by simpa using h1
  have b2 : decide (f ≤ (N : Int)) = true := by simp; omega
  have b3 : decide (k ≤ (N : Int) - f) = true := by simpa using h2
  have e1 : IntKind.i64.wrap ((N : Int) - f) = (N : Int) - f := IntWalk.i64_in _ (by omega)
  clear hN
  go_enter Tryd.func40, Tryd.ntmps40
  go_wp2
  go_ret
  exact ⟨rfl, rfl⟩
theorem within_no (p g : Nat) (bs : List UInt8) (f k : Int) (w : World) (hA : Rr w p g bs) (hf : InI f) (h : ¬ okB bs.length f k 1) :
    Calls Tryd.prog 40 #[.pointer (some ⟨p, 0, none⟩), .int .i64 f, .int .i64 k] w fun e w' => e = .returned (.bool false) ∧ w = w' := by
  obtain ⟨hf1, hf2⟩ := hf
  have hln := hA.len
  have cp : w.cell? ⟨p, 0, none⟩ = some (.slice (some ⟨g, 0, none⟩) bs.length bs.length) := hA.hp.cell rfl
  clear hA
  obtain ⟨N, hN⟩ : ∃ N, bs.length = N := ⟨_, rfl⟩
  unfold okB at h
  rw [hN] at cp h hln
  clear hN
  by_cases h0 : 0 ≤ f
  · have b0 : decide (0 ≤ f) = true := by simpa using h0
    by_cases h1 : 0 ≤ k
    · have b1 : decide (0 ≤ k) = true := by simpa using h1
      by_cases h2 : f ≤ (N : Int)
      · have b2 : decide (f ≤ (N : Int)) = true := by simpa using h2
        have h3 : ¬ k ≤ (N : Int) - f := by omega
        have b3 : decide (k ≤ (N : Int) - f) = false := by simpa using h3
        have e1 : IntKind.i64.wrap ((N : Int) - f) = (N : Int) - f := IntWalk.i64_in _ (by omega)
        clear h
        go_enter Tryd.func40, Tryd.ntmps40
        go_wp2
        go_ret
        exact ⟨rfl, rfl⟩
      · have b2 : decide (f ≤ (N : Int)) = false := by simpa using h2
        clear h
        go_enter Tryd.func40, Tryd.ntmps40
        go_wp2
        go_ret
        exact ⟨rfl, rfl⟩
    · have b1 : decide (0 ≤ k) = false := by simpa using h1
      clear h
      go_enter Tryd.func40, Tryd.ntmps40
      go_wp2
      go_ret
      exact ⟨rfl, rfl⟩
  · have b0 : decide (0 ≤ f) = false := by simpa using h0
    clear h
    go_enter Tryd.func40, Tryd.ntmps40
    go_wp2
    go_ret
    exact ⟨rfl, rfl⟩
theorem rnew_bad (n : Int) (w : World) (h : n < 1 ∨ 32 < n) :
    Calls Tryd.prog 20 #[.int .i64 n] w fun e w' => e = .returned (.tuple #[.pointer none, .int .i64 2]) ∧ w = w' := by
  by_cases h1 : n < 1
  · clear h
    go_enter Tryd.func20, Tryd.ntmps20
    go_wp2
    go_ret2
    exact ⟨rfl, rfl⟩
  · have h2 : 32 < n := by omega
    clear h
    go_enter Tryd.func20, Tryd.ntmps20
    go_wp2
    go_ret2
    exact ⟨rfl, rfl⟩
theorem rnew_ok (b : Nat) (w : World) (h0 : 1 ≤ b) (h1 : b ≤ 32) :
    Calls Tryd.prog 20 #[.int .i64 (b : Int)] w fun e w' => ∃ p g, e = .returned (.tuple #[.pointer (some ⟨p, 0, none⟩), .int .i64 0]) ∧ Rr w' p g (zer (4096 * b)) ∧ Below w.heap.size w w' ∧ w.heap.size ≤ g ∧ w.heap.size ≤ p := by
  have hmk := mkB (4096 * b) (by omega)
  have hN : (4096 * b : Nat) ≤ 131072 := by omega
  have he : IntKind.i64.wrap ((b : Int) * 4096) = ((4096 * b : Nat) : Int) := by rw [IntWalk.i64_in _ (by omega)]; omega
  have he2 : (b : Int) * 4096 = ((4096 * b : Nat) : Int) := by omega
  generalize 4096 * b = N at hmk hN he he2 ⊢
  go_enter Tryd.func20, Tryd.ntmps20
  go_wp2
  go_ret2
  obtain ⟨b0, b1, hb, _⟩ := blk2 w (zbytes N) #[.slice (some ⟨w.heap.size, 0, none⟩) N N] 5 52
  exact ⟨w.heap.size + 1, w.heap.size, rfl, ⟨by omega, by rw [zer_len]; exact b1, by rw [← zbytes_eq]; exact b0, by rw [zer_len]; omega⟩, hb, Nat.le_refl _, by omega⟩
theorem cntB_take (bs : List UInt8) (x : Nat) (h : x < bs.length) : cntB (bs.take (x + 1)) = cntB (bs.take x) + if bs[x].toNat = 0 then 0 else 1 := by
  rw [List.take_succ_eq_append_getElem h, cntB_app]
  congr 1
  unfold cntB
  by_cases h : bs[x].toNat = 0
  · rw [if_pos h]
    have : bs[x] = 0 := by rw [← UInt8.toNat_inj]; simpa using h
    rw [this]
    rfl
  · rw [if_neg h]
    have : bs[x] ≠ 0 := fun e => h (by rw [e]; rfl)
    simp [this]
theorem rread_bad (p g : Nat) (bs : List UInt8) (f k : Int) (w : World) (hA : Rr w p g bs) (hf : InI f) (h : ¬ okB bs.length f k 1) :
    Calls Tryd.prog 41 #[.pointer (some ⟨p, 0, none⟩), .int .i64 f, .int .i64 k] w fun e w' => e = .returned (.tuple #[.string ⟨#[]⟩, .int .i64 10]) ∧ w = w' := by
  have HC := Lib.hid (within_no p g bs f (k) w hA hf h)
  clear hA hf h
  go_enter Tryd.func41, Tryd.ntmps41
  go_wp2_with fail
  ((with_reducible refine HC.out.mono ?_))
  rintro e w' ⟨rfl, rfl⟩
  go_wp2
  go_ret2
  exact ⟨rfl, rfl⟩
theorem rwrite_bad (p g : Nat) (bs : List UInt8) (f : Int) (s : ByteArray) (w : World) (hA : Rr w p g bs) (hf : InI f) (h : ¬ okB bs.length f (s.size : Int) 1) :
    Calls Tryd.prog 24 #[.pointer (some ⟨p, 0, none⟩), .int .i64 f, .string s] w fun e w' => e = .returned (.int .i64 10) ∧ w = w' := by
  have HC := Lib.hid (within_no p g bs f ((s.size : Int)) w hA hf h)
  clear hA hf h
  go_enter Tryd.func24, Tryd.ntmps24
  go_wp2_with fail
  ((with_reducible refine HC.out.mono ?_))
  rintro e w' ⟨rfl, rfl⟩
  go_wp2
  go_ret
  exact ⟨rfl, rfl⟩
theorem rread_ok (p g : Nat) (bs : List UInt8) (i k : Nat) (w : World) (hA : Rr w p g bs) (hi : i + k ≤ bs.length) :
    Calls Tryd.prog 41 #[.pointer (some ⟨p, 0, none⟩), .int .i64 (i : Int), .int .i64 (k : Int)] w fun e w' => e = .returned (.tuple #[.string ⟨((bs.drop i).take k).toArray⟩, .int .i64 0]) ∧ w = w' := by
  have HC := Lib.hid (within_ok p g bs i k w hA ⟨by omega, by omega, by omega, by omega⟩)
  have hln := hA.len
  have cp : w.cell? ⟨p, 0, none⟩ = some (.slice (some ⟨g, 0, none⟩) bs.length bs.length) := hA.hp.cell rfl
  have hc := run_cut g i k bs.length hi w
  have ht := run_text hA i k hi
  generalize (⟨((bs.drop i).take k).toArray⟩ : ByteArray) = X at ht ⊢
  clear hA
  go_enter Tryd.func41, Tryd.ntmps41
  go_wp2_with fail
  ((with_reducible refine HC.out.mono ?_))
  rintro e w' ⟨rfl, rfl⟩
  go_wp2
  go_ret2
  exact ⟨rfl, rfl⟩
end Go.Proofs.YtmikkbhillkpkaaDoor
