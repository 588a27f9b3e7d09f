/-
  selionlaw03.ArenaWords, for every input.
-/
import Derived.Test.YtchaojdjgbeepaaDoorArY
namespace Go.Proofs.YtchaojdjgbeepaaDoor
open Go.RowKit Go.Lib Go.Shelf
attribute [local go_sem] Oper.semAt_some

theorem wrL_mid (bs : List UInt8) (i : Nat) (l : List UInt8) (h : i ≤ bs.length) : ((wrL bs i l).drop i).take l.length = l := by
  have h1 : (bs.take i).length = i := by simp; omega
  rw [wrL, List.append_assoc, List.drop_append_of_le_length (by omega), List.drop_eq_nil_of_le (by omega)]
  simp
theorem word4_wrL (bs : List UInt8) (i v : Nat) (h : i + 4 ≤ bs.length) (hv : v < 4294967296) : word4 (wrL bs i (bytes4 v)) i = v := by
  have hg : ∀ j, j < 4 → ((wrL bs i (bytes4 v)).getD (i + j) 0).toNat = v / 256 ^ j % 256 := fun j hj => by
    rw [List.getD, wrL_get _ _ _ (by rw [bytes4_len]; omega), if_pos (by rw [bytes4_len]; omega), show i + j - i = j by omega, show (bytes4 v)[j]? = some (byteOf v j) by match j, hj with | 0, _ => rfl | 1, _ => rfl | 2, _ => rfl | 3, _ => rfl]
    simp [byteOf]
  have h0 := hg 0 (by omega)
  have h1 := hg 1 (by omega)
  have h2 := hg 2 (by omega)
  have h3 := hg 3 (by omega)
  simp only [Nat.add_zero] at h0
  unfold word4
  rw [h0, h1, h2, h3]
  omega
set_option maxRecDepth 100000 in
set_option maxHeartbeats 1000000 in
theorem lawArenaWords_bad (V : VR) (b : Int) (q : Option Addr) (n cap : Nat) (a v : Int) (w : World) (hV : RV w V) (hb : InI b) (h : b < 1 ∨ 32 < b) :
    Calls Tryd.prog 6 #[.int .i64 b, .slice q n cap, .int .i64 a, .int .u32 v] w fun e w' => e = .returned (.bool true) ∧ Below w.heap.size w w' := by
  have HS := Lib.hid (shown_ok V w hV)
  have HMd := Lib.hid (fun W (hW : Below w.heap.size w W) => made_bad V b (.slice q n cap) W (hV.below hW) hb h)
  clear hV hb h
  go_enter Tryd.func6, Tryd.ntmps6
  go_wp2_with fail
  ((with_reducible refine HS.out.mono ?_))
  rintro e w1 ⟨rfl, hb⟩
  have HB1 := Lib.hid hb
  clear hb HS
  go_wp2_with fail
  ((with_reducible refine (HMd.out w1 HB1.out).mono ?_))
  rintro e w2 ⟨rfl, hb⟩
  have HB2 := Lib.hid (bstep HB1.out hb)
  clear hb
  go_wp2
  go_ret
  exact ⟨rfl, HB2.out⟩
set_option maxRecDepth 100000 in
set_option maxHeartbeats 1000000 in
theorem lawArenaWords_no (V : VR) (b : Nat) (q : Option Addr) (n cap : Nat) (bs : List UInt8) (a : Int) (v : Nat) (w : World) (hV : RV w V) (hMd : MadeAt w b q n cap bs) (ha : InI a) (h : ¬ okB bs.length a 4 4) :
    Calls Tryd.prog 6 #[.int .i64 (b : Int), .slice q n cap, .int .i64 a, .int .u32 (v : Int)] w fun e w' => e = .returned (.bool true) ∧ Below w.heap.size w w' := by
  have HS := Lib.hid (shown_ok V w hV)
  have HMd := Lib.hid hMd
  have HV := Lib.hid hV
  clear hV hMd
  go_enter Tryd.func6, Tryd.ntmps6
  go_wp2_with fail
  ((with_reducible refine HS.out.mono ?_))
  rintro e w1 ⟨rfl, hb⟩
  have HB1 := Lib.hid hb
  clear hb HS
  go_wp2_with fail
  ((with_reducible refine (HMd.out.call w1 HB1.out).mono ?_))
  rintro e w2 ⟨p, g, rfl, hA, hb, hgg, hpp⟩
  have HA2 := Lib.hid hA
  have HB2 := Lib.hid (bstep HB1.out hb)
  clear hA hb
  have hC := store_bad V p g bs a (v : Int) w2 (HV.out.below HB2.out) HA2.out ha h
  have HC := Lib.hid hC
  clear hC
  go_wp2_with fail
  ((with_reducible refine HC.out.mono ?_))
  rintro e w3 ⟨rfl, hb⟩
  have HB3 := Lib.hid (bstep HB2.out hb)
  have HA3 := Lib.hid (HA2.out.below hb)
  clear hb HC
  have hC := load_bad V p g bs a w3 (HV.out.below HB3.out) HA3.out ha h
  have HC := Lib.hid hC
  clear hC
  go_wp2_with fail
  ((with_reducible refine HC.out.mono ?_))
  rintro e w4 ⟨rfl, hb⟩
  have HB4 := Lib.hid (bstep HB3.out hb)
  have HA4 := Lib.hid (HA3.out.below hb)
  clear hb HC
  go_wp2
  go_ret
  exact ⟨rfl, HB4.out⟩
set_option maxRecDepth 100000 in
set_option maxHeartbeats 1000000 in
theorem lawArenaWords_ok (V : VR) (b : Nat) (q : Option Addr) (n cap : Nat) (bs : List UInt8) (i v : Nat) (w : World) (hV : RV w V) (hMd : MadeAt w b q n cap bs) (hv : v < 4294967296) (hi : i + 4 ≤ bs.length) (h4 : i % 4 = 0) :
    Calls Tryd.prog 6 #[.int .i64 (b : Int), .slice q n cap, .int .i64 (i : Int), .int .u32 (v : Int)] w fun e w' => e = .returned (.bool true) ∧ Below w.heap.size w w' := by
  have HS := Lib.hid (shown_ok V w hV)
  have HMd := Lib.hid hMd
  have HV := Lib.hid hV
  clear hV hMd
  have f2 : ((i : Int) % 4 == 0) = true := by simp; omega
  have f3 : (i : Int) % 4 = 0 := by omega
  have f4 : (i : Int).tmod 4 = 0 := by rw [Int.tmod_eq_emod_of_nonneg (by omega)]; exact f3
  obtain ⟨S, hS⟩ : ∃ S : ByteArray, S = ⟨(bytes4 v).toArray⟩ := ⟨_, rfl⟩
  obtain ⟨x0, e0⟩ : ∃ x, x = v % 256 := ⟨_, rfl⟩
  obtain ⟨x1, e1⟩ : ∃ x, x = v / 256 % 256 := ⟨_, rfl⟩
  obtain ⟨x2, e2⟩ : ∃ x, x = v / 65536 % 256 := ⟨_, rfl⟩
  obtain ⟨x3, e3⟩ : ∃ x, x = v / 16777216 % 256 := ⟨_, rfl⟩
  have z : S.size = 4 := by rw [hS]; rfl
  have q0 : 0 < S.size := by omega
  have s0 : (S[0]'q0).toNat = x0 := by subst hS; rw [e0]; show (byteOf v 0).toNat = _; simp [byteOf]
  have q1 : 1 < S.size := by omega
  have s1 : (S[1]'q1).toNat = x1 := by subst hS; rw [e1]; show (byteOf v 1).toNat = _; simp [byteOf]
  have q2 : 2 < S.size := by omega
  have s2 : (S[2]'q2).toNat = x2 := by subst hS; rw [e2]; show (byteOf v 2).toNat = _; simp [byteOf]
  have q3 : 3 < S.size := by omega
  have s3 : (S[3]'q3).toNat = x3 := by subst hS; rw [e3]; show (byteOf v 3).toNat = _; simp [byteOf]
  have u0 : x0 < 256 := by omega
  have u1 : x1 < 256 := by omega
  have u2 : x2 < 256 := by omega
  have u3 : x3 < 256 := by omega
  have hsum : (x0 : Int) + 256 * (x1 : Int) + 65536 * (x2 : Int) + 16777216 * (x3 : Int) = (v : Int) := by omega
  have cR : ∀ p g W, Ar W p g (wrL bs i (bytes4 v)) → (Calls Tryd.prog 21 #[.pointer (some ⟨p, 0, none⟩), .int .i64 (i : Int), .int .i64 4] W fun e w' => e = .returned (.tuple #[.string S, .int .i64 0]) ∧ Below W.heap.size W w') := fun p g W hW => by
    have h5 := read_ok p g _ i 4 W hW (by rw [wrL_len _ _ _ (by rw [bytes4_len]; exact hi)]; exact hi)
    have h6 := wrL_mid bs i (bytes4 v) (by omega)
    rw [bytes4_len] at h6
    rw [h6, ← hS] at h5
    exact h5
  have cL : ∀ p g W, Ar W p g (wrL bs i (bytes4 v)) → (Calls Tryd.prog 12 #[.pointer (some ⟨p, 0, none⟩), .int .i64 (i : Int)] W fun e w' => e = .returned (.tuple #[.int .u32 (v : Int), .int .i64 0]) ∧ Below W.heap.size W w') := fun p g W hW => by
    have h5 := load_ok p g _ i W hW (by rw [wrL_len _ _ _ (by rw [bytes4_len]; exact hi)]; exact hi) h4
    rw [word4_wrL bs i v hi hv] at h5
    exact h5
  have CR := Lib.hid cR
  have CL := Lib.hid cL
  have E := Lib.hid hsum
  clear cR cL hS e0 e1 e2 e3 hsum
  go_enter Tryd.func6, Tryd.ntmps6
  go_wp2_with fail
  ((with_reducible refine HS.out.mono ?_))
  rintro e w1 ⟨rfl, hb⟩
  have HB1 := Lib.hid hb
  clear hb HS
  go_wp2_with fail
  ((with_reducible refine (HMd.out.call w1 HB1.out).mono ?_))
  rintro e w2 ⟨p, g, rfl, hA, hb, hgg, hpp⟩
  have HA2 := Lib.hid hA
  have HB2 := Lib.hid (bstep HB1.out hb)
  clear hA hb
  have hC := store_ok p g bs i v w2 HA2.out hv hi h4
  have HC := Lib.hid hC
  clear hC
  go_wp2_with fail
  ((with_reducible refine HC.out.mono ?_))
  rintro e w3 ⟨rfl, hA, hU⟩
  have HB3 := Lib.hid (Upd.below HB2.out hU HB2.out.size (Nat.le_trans HB1.out.size hgg))
  have HA3 := Lib.hid hA
  clear hA hU HC
  have hC := CL.out p g w3 HA3.out
  have HC := Lib.hid hC
  clear hC
  go_wp2_with fail
  ((with_reducible refine HC.out.mono ?_))
  rintro e w4 ⟨rfl, hb⟩
  have HB4 := Lib.hid (bstep HB3.out hb)
  have HA4 := Lib.hid (HA3.out.below hb)
  clear hb HC
  have hC := CR.out p g w4 HA4.out
  have HC := Lib.hid hC
  clear hC
  go_wp2_with fail
  ((with_reducible refine HC.out.mono ?_))
  rintro e w5 ⟨rfl, hb⟩
  have HB5 := Lib.hid (bstep HB4.out hb)
  have HA5 := Lib.hid (HA4.out.below hb)
  clear hb HC
  have hsum := E.out
  have hsum2 : ((x0 : Int) + 256 * (x1 : Int) + 65536 * (x2 : Int) + 16777216 * (x3 : Int) == (v : Int)) = true := by simpa using hsum
  have m6 : (IntKind.u32.wrap (IntKind.u32.wrap (IntKind.u32.wrap (IntKind.u32.wrap ((S[0]'q0).toNat : Int) + IntKind.u32.wrap ((256 : Int) * IntKind.u32.wrap ((S[1]'q1).toNat : Int))) + IntKind.u32.wrap ((65536 : Int) * IntKind.u32.wrap ((S[2]'q2).toNat : Int))) + IntKind.u32.wrap ((16777216 : Int) * IntKind.u32.wrap ((S[3]'q3).toNat : Int))) == (v : Int)) = true := by
    rw [s0, s1, s2, s3]
    simp only [IntKind.wrap_u32, beq_iff_eq]
    omega
  clear s0 s1 s2 s3 hsum hsum2
  have m8 : IntKind.i64.wrap ((i : Int).tmod 4) = 0 := by rw [f4]; rfl
  go_wp2
  go_quiet (fail)
  go_wp2
  go_ret
  exact ⟨rfl, Ad.below_drewN HB5.out _⟩

theorem lawArenaWords (V : VR) (b : Int) (q : Option Addr) (n cap : Nat) (a v : Int) (w : World) (hV : RV w V) (hb : InI b) (hl : n ≤ cap) (hm : cap ≤ maxLen) (hI : ∃ xs, OL w q xs ∧ xs.length = n) (ha : InI a) (hv : 0 ≤ v ∧ v < 4294967296) :
    Calls Tryd.prog 6 #[.int .i64 b, .slice q n cap, .int .i64 a, .int .u32 v] w fun e w' => e = .returned (.bool true) ∧ Below w.heap.size w w' := by
  obtain ⟨v, rfl⟩ : ∃ c : Nat, v = c := ⟨v.toNat, by omega⟩
  by_cases h : b < 1 ∨ 32 < b
  · exact lawArenaWords_bad V b q n cap a v w hV hb h
  · obtain ⟨b, rfl⟩ : ∃ c : Nat, b = c := ⟨b.toNat, by omega⟩
    obtain ⟨bs, hbl, hMd⟩ := made_at V b q n cap w hV (by omega) (by omega) hI hl hm
    by_cases h2 : okB bs.length a 4 4
    · unfold okB at h2
      obtain ⟨i, rfl⟩ : ∃ c : Nat, a = c := ⟨a.toNat, by omega⟩
      exact lawArenaWords_ok V b q n cap bs i v w hV hMd (by omega) (by omega) (by omega)
    · exact lawArenaWords_no V b q n cap bs a v w hV hMd ha h2
end Go.Proofs.YtchaojdjgbeepaaDoor
