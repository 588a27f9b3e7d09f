/-
  selionref06: even, Right, Turn.
-/
import Derived.Test.YtmikkbhillkpkaaDoorHdG
namespace Go.Proofs.YtmikkbhillkpkaaDoor
open Go.RowKit Go.Lib Go.Shelf
attribute [local go_sem] Oper.semAt_some
set_option linter.unusedSimpArgs false
set_option linter.unusedVariables false

/-- How many of the bytes have this binary digit. -/
def evN (l : List UInt8) (k : Nat) : Nat := (l.map fun b => b.toNat / 2 ^ k % 2).sum
theorem evN_snoc (l : List UInt8) (b : UInt8) (k : Nat) : evN (l ++ [b]) k = evN l k + b.toNat / 2 ^ k % 2 := by simp [evN]
theorem evN_take (l : List UInt8) (j : Nat) (b : UInt8) (h : l[j]? = some b) (k : Nat) : evN (l.take (j + 1)) k = evN (l.take j) k + b.toNat / 2 ^ k % 2 := by rw [take_add l j b h, evN_snoc]
theorem evN_le (l : List UInt8) (k : Nat) : evN l k ≤ l.length := by
  induction l with
  | nil => simp [evN]
  | cons b l ih =>
    simp only [evN, List.map_cons, List.sum_cons, List.length_cons] at ih ⊢
    have : b.toNat / 2 ^ k % 2 < 2 := Nat.mod_lt _ (by omega)
    omega
theorem bit_xor (a b : UInt8) (k : Nat) : (a ^^^ b).toNat / 2 ^ k % 2 = (a.toNat / 2 ^ k % 2 + b.toNat / 2 ^ k % 2) % 2 := by
  have h := Nat.testBit_xor a.toNat b.toNat k
  simp only [Nat.testBit_eq_decide_div_mod_eq] at h
  rw [UInt8.toNat_xor]
  have h1 : a.toNat / 2 ^ k % 2 < 2 := Nat.mod_lt _ (by omega)
  have h2 : b.toNat / 2 ^ k % 2 < 2 := Nat.mod_lt _ (by omega)
  have h3 : (a.toNat ^^^ b.toNat) / 2 ^ k % 2 < 2 := Nat.mod_lt _ (by omega)
  generalize a.toNat / 2 ^ k % 2 = x at *
  generalize b.toNat / 2 ^ k % 2 = y at *
  generalize (a.toNat ^^^ b.toNat) / 2 ^ k % 2 = z at *
  rcases (by omega : x = 0 ∨ x = 1) with rfl | rfl <;> rcases (by omega : y = 0 ∨ y = 1) with rfl | rfl <;> rcases (by omega : z = 0 ∨ z = 1) with rfl | rfl <;> simp at h ⊢
theorem evN_xor (l : List UInt8) (k : Nat) : evN l k % 2 = (xorL l).toNat / 2 ^ k % 2 := by
  have : ∀ n (l : List UInt8), l.length = n → evN l k % 2 = (xorL l).toNat / 2 ^ k % 2 := by
    intro n
    induction n with
    | zero =>
      intro l h
      rw [List.length_eq_zero_iff.1 h]
      simp [evN, xorL]
    | succ n ih =>
      intro l h
      rcases List.eq_nil_or_concat l with e | ⟨ys, y, e⟩
      · subst e; simp at h
      · rw [List.concat_eq_append] at e
        subst e
        rw [evN_snoc, xorL_snoc, bit_xor, ← ih ys (by simpa using h)]
        omega
  exact this _ l rfl
def outN (l : List UInt8) : Nat → Nat
  | 0 => 0
  | k + 1 => outN l k + evN l k % 2 * 2 ^ k
theorem outN_lt (l : List UInt8) : ∀ k, outN l k < 2 ^ k
  | 0 => by simp [outN]
  | k + 1 => by
    have h := outN_lt l k
    have h2 : evN l k % 2 < 2 := Nat.mod_lt _ (by omega)
    rw [outN, Nat.pow_succ]
    rcases (by omega : evN l k % 2 = 0 ∨ evN l k % 2 = 1) with e | e <;> rw [e] <;> omega
theorem outN_xor (l : List UInt8) : outN l 8 = (xorL l).toNat := by
  have hx := (xorL l).toNat_lt
  have e : ∀ k, evN l k % 2 = (xorL l).toNat / 2 ^ k % 2 := evN_xor l
  simp only [outN, e]
  generalize (xorL l).toNat = x at hx ⊢
  simp only [Nat.reducePow]
  omega
theorem ba_get' (s : ByteArray) (j : Nat) (h : j < s.size) : s.data.toList[j]? = some s[j] := by
  rw [Array.getElem?_toList, Array.getElem?_eq_getElem h]
  rfl
theorem w64 (x : Int) (h0 : 0 ≤ x) (h1 : x < 9223372036854775808) : wrap64 x = x := by unfold wrap64; omega
theorem ev_step (n x d : Nat) (hx : x < 256) (hd : 1 ≤ d) (hn : n ≤ 1000) : wrap64 ((n : Int) + (wrap64 ((x : Int) / (d : Int))).tmod 2) = ((n + x / d % 2 : Nat) : Int) := by
  obtain ⟨y, hy⟩ : ∃ y, x / d = y := ⟨_, rfl⟩
  have h2 : y ≤ x := by rw [← hy]; exact Nat.div_le_self _ _
  have h1 : (x : Int) / (d : Int) = (y : Int) := by rw [← hy]; simp
  rw [h1, hy, w64 (y : Int) (by omega) (by omega)]
  clear h1 hy
  have h3 : ((y : Int)).tmod 2 = (y : Int) % 2 := Int.tmod_eq_emod_of_nonneg (by omega)
  have h4 : (0 : Int) ≤ (y : Int) % 2 ∧ (y : Int) % 2 < 2 := by omega
  rw [h3, w64 _ (by omega) (by omega)]
  omega
theorem out_step (o n d : Nat) (ho : o < d) (hd : d ≤ 128) : wrap64 ((o : Int) + wrap64 ((n : Int) % 2 * (d : Int))) = ((o + n % 2 * d : Nat) : Int) := by
  rcases (by omega : n % 2 = 0 ∨ n % 2 = 1) with h | h
  · have h1 : (n : Int) % 2 = 0 := by omega
    rw [h1, h, Int.zero_mul, Nat.zero_mul, w64 0 (by omega) (by omega), w64 _ (by omega) (by omega)]
    omega
  · have h1 : (n : Int) % 2 = 1 := by omega
    rw [h1, h, Int.one_mul, Nat.one_mul, w64 (d : Int) (by omega) (by omega), w64 _ (by omega) (by omega)]
    omega
set_option maxRecDepth 100000 in
set_option maxHeartbeats 2000000 in
theorem reven_any (s : ByteArray) (hm : s.size ≤ 100) (w : World) : Calls Tryd.prog 32 #[.string s] w fun e w' => e = .returned (.int .u8 ((xorL s.data.toList).toNat : Int)) ∧ w = w' := by
  have HG := Lib.hid (ba_get' s)
  have HT := Lib.hid (evN_take s.data.toList)
  have HO := Lib.hid (outN_xor s.data.toList)
  have HL := Lib.hid (outN_lt s.data.toList)
  have HE := Lib.hid (evN_le s.data.toList)
  have HLE := Lib.hid (fun j k => evN_le (s.data.toList.take j) k)
  have hlen : s.data.toList.length = s.size := rfl
  have HN := Lib.hid hlen
  clear hlen
  generalize hl : s.data.toList = l at *
  clear hl
  go_enter Tryd.func32, Tryd.ntmps32
  go_wp2
  go_loop [3, 4] (fun s3 s4 => ∃ k : Nat, k ≤ 8 ∧ s4 = .int .i64 ((2 ^ k : Nat) : Int) ∧ s3 = .int .i64 (outN l k : Int)) (fun _ s4 => 256 - (intOf s4).toNat)
  case atStart => exact ⟨0, by omega, rfl, rfl⟩
  case round =>
    obtain ⟨k, hk, rfl, rfl⟩ := hrel
    have hok := HL.out k
    by_cases hlt : k < 8
    · have hpk : 2 ^ k ≤ 128 := by
        have := Nat.pow_le_pow_right (n := 2) (by omega) (show k ≤ 7 by omega)
        simpa using this
      have hp1 : 1 ≤ 2 ^ k := Nat.one_le_two_pow
      obtain ⟨d, hd⟩ : ∃ d, 2 ^ k = d := ⟨_, rfl⟩
      have hd2 : 2 ^ (k + 1) = 2 * d := by rw [Nat.pow_succ, hd]; omega
      have HD := Lib.hid hd
      have HD2 := Lib.hid hd2
      rw [hd] at hok hpk hp1 ⊢
      have hon : outN l (k + 1) = outN l k + evN l k % 2 * d := by rw [outN, hd]
      have HON := Lib.hid hon
      clear hd hd2 hon
      generalize outN l k = o at hok HON ⊢
      have dlt : decide ((d : Int) < 256) = true := by simp; omega
      go_wp2
      go_loop [5, 6] (fun s5 s6 => ∃ j : Nat, j ≤ s.size ∧ s6 = .int .i64 (j : Int) ∧ s5 = .int .i64 (evN (l.take j) k : Int)) (fun _ s6 => s.size - (intOf s6).toNat)
      case atStart => exact ⟨0, by omega, rfl, rfl⟩
      case round =>
        obtain ⟨j, hj, rfl, rfl⟩ := hrel
        have hej := HLE.out j k
        have htl : (l.take j).length ≤ j := List.length_take_le _ _
        by_cases hjt : j < s.size
        · have HX := Lib.hid (HT.out j _ (HG.out j hjt) k)
          have hb := (s[j]).toNat_lt
          have hb2 : (s[j]).toNat / 2 ^ k % 2 < 2 := Nat.mod_lt _ (by omega)
          have HDD := Lib.hid (show (s[j]).toNat / 2 ^ k % 2 = (s[j]).toNat / d % 2 by rw [HD.out])
          generalize evN (l.take j) k = n at hej HX ⊢
          have i0 : (0 : Int) ≤ (j : Int) := by omega
          have i1 : (j : Int) < (s.size : Int) := by omega
          go_wp2
          go_round
          case rel => exact ⟨j + 1, by omega, by go_num, by rw [HX.out, ev_step n _ d hb hp1 (by omega), HDD.out]⟩
          case measure => simp [intOf]; omega
        · obtain rfl : j = s.size := by omega
          have htk : l.take s.size = l := List.take_of_length_le (by rw [HN.out]; exact Nat.le_refl _)
          rw [htk] at hej ⊢
          have HTK := Lib.hid htk
          clear htk htl
          have he := hej
          generalize evN l k = n at hej HON ⊢
          go_wp2
          go_round
          case rel => exact ⟨k + 1, by omega, by rw [HD2.out]; go_num, by rw [HON.out, out_step o n d hok hpk]⟩
          case measure => simp [intOf]; omega
    · obtain rfl : k = 8 := by omega
      have dlt : decide (((2 ^ 8 : Nat) : Int) < 256) = false := by decide
      rw [HO.out]
      go_wp2
      go_ret
      have hx := (xorL l).toNat_lt
      exact ⟨by show Ending.returned (.int .u8 (((xorL l).toNat : Int) % 256)) = _; rw [show ((xorL l).toNat : Int) % 256 = ((xorL l).toNat : Int) by omega], rfl⟩
theorem rturn_any (e : Int) (w : World) : Calls Tryd.prog 18 #[.int .i64 e] w fun en w' => en = .returned (.int .i64 (turnZ e)) ∧ w = w' := by
  by_cases h0 : 0 ≤ e
  · have d0 : decide (0 ≤ e) = true := by simpa using h0
    by_cases h1 : e < 255
    · rw [turnZ, if_pos (by omega)]
      have d1 : decide (e < 255) = true := by simpa using h1
      go_enter Tryd.func18, Tryd.ntmps18
      go_wp2
      go_ret
      exact ⟨rfl, rfl⟩
    · rw [turnZ, if_neg (by omega)]
      have d1 : decide (e < 255) = false := by simpa using h1
      go_enter Tryd.func18, Tryd.ntmps18
      go_wp2
      go_ret
      exact ⟨rfl, rfl⟩
  · rw [turnZ, if_neg (by omega)]
    have d0 : decide (0 ≤ e) = false := by simpa using h0
    go_enter Tryd.func18, Tryd.ntmps18
    go_wp2
    go_ret
    exact ⟨rfl, rfl⟩
set_option maxHeartbeats 1000000 in
theorem rright_any (m : Mk) (w : World) : Calls Tryd.prog 16 #[.agg (mkA m)] w fun e w' => e = .returned (.bool (rightB m)) ∧ Below w.heap.size w w' := by
  obtain ⟨k, l, c, e⟩ := m
  have hr : rightB ⟨k, l, c, e⟩ = (decide (1 ≤ k) && decide (k ≤ 60) && decide (0 ≤ l) && decide (l ≤ 40000) && decide (1 ≤ c) && decide (c ≤ 3) && decide (0 ≤ e) && decide (e ≤ 255)) := by
    rw [Bool.eq_iff_iff]
    simp [rightB, inFld]
    omega
  rw [hr]
  clear hr
  dsimp only [mkA]
  obtain ⟨a1, h1⟩ : ∃ b, decide (1 ≤ k) = b := ⟨_, rfl⟩
  obtain ⟨a2, h2⟩ : ∃ b, decide (k ≤ 60) = b := ⟨_, rfl⟩
  obtain ⟨a3, h3⟩ : ∃ b, decide (0 ≤ l) = b := ⟨_, rfl⟩
  obtain ⟨a4, h4⟩ : ∃ b, decide (l ≤ 40000) = b := ⟨_, rfl⟩
  obtain ⟨a5, h5⟩ : ∃ b, decide (1 ≤ c) = b := ⟨_, rfl⟩
  obtain ⟨a6, h6⟩ : ∃ b, decide (c ≤ 3) = b := ⟨_, rfl⟩
  obtain ⟨a7, h7⟩ : ∃ b, decide (0 ≤ e) = b := ⟨_, rfl⟩
  obtain ⟨a8, h8⟩ : ∃ b, decide (e ≤ 255) = b := ⟨_, rfl⟩
  rw [h1, h2, h3, h4, h5, h6, h7, h8]
  cases a1
  · go_enter Tryd.func16, Tryd.ntmps16
    go_wp2
    go_ret
    exact ⟨rfl, (Below.refl _ _).alloc (Nat.le_refl _) _⟩
  cases a2
  · go_enter Tryd.func16, Tryd.ntmps16
    go_wp2
    go_ret
    exact ⟨rfl, (Below.refl _ _).alloc (Nat.le_refl _) _⟩
  cases a3
  · go_enter Tryd.func16, Tryd.ntmps16
    go_wp2
    go_ret
    exact ⟨rfl, (Below.refl _ _).alloc (Nat.le_refl _) _⟩
  cases a4
  · go_enter Tryd.func16, Tryd.ntmps16
    go_wp2
    go_ret
    exact ⟨rfl, (Below.refl _ _).alloc (Nat.le_refl _) _⟩
  cases a5
  · go_enter Tryd.func16, Tryd.ntmps16
    go_wp2
    go_ret
    exact ⟨rfl, (Below.refl _ _).alloc (Nat.le_refl _) _⟩
  cases a6
  · go_enter Tryd.func16, Tryd.ntmps16
    go_wp2
    go_ret
    exact ⟨rfl, (Below.refl _ _).alloc (Nat.le_refl _) _⟩
  cases a7
  · go_enter Tryd.func16, Tryd.ntmps16
    go_wp2
    go_ret
    exact ⟨rfl, (Below.refl _ _).alloc (Nat.le_refl _) _⟩
  cases a8
  · go_enter Tryd.func16, Tryd.ntmps16
    go_wp2
    go_ret
    exact ⟨rfl, (Below.refl _ _).alloc (Nat.le_refl _) _⟩
  · go_enter Tryd.func16, Tryd.ntmps16
    go_wp2
    go_ret
    exact ⟨rfl, (Below.refl _ _).alloc (Nat.le_refl _) _⟩
end Go.Proofs.YtmikkbhillkpkaaDoor
