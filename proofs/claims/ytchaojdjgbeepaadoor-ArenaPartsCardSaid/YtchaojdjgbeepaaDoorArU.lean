/-
  selionlaw03.ArenaParts, for every input.
-/
import Derived.Test.YtchaojdjgbeepaaDoorArY
namespace Go.Proofs.YtchaojdjgbeepaaDoor
open Go.RowKit Go.Lib Go.Shelf
attribute [local go_sem] Oper.semAt_some

set_option maxRecDepth 100000 in
set_option maxHeartbeats 1000000 in
theorem lawArenaParts_bad (V : VR) (b : Int) (q : Option Addr) (n cap : Nat) (a k m : Int) (w : World) (hV : RV w V) (hb : InI b) (h : b < 1 ∨ 32 < b) :
    Calls Tryd.prog 9 #[.int .i64 b, .slice q n cap, .int .i64 a, .int .i64 k, .int .i64 m] w fun e w' => e = .returned (.bool true) ∧ Below w.heap.size w w' := by
  have HS := Lib.hid (shown_ok V w hV)
  have HMd := Lib.hid (fun W (hW : Below w.heap.size w W) => made_bad V b (.slice q n cap) W (hV.below hW) hb h)
  clear hV hb h
  go_enter Tryd.func9, Tryd.ntmps9
  go_wp2_with fail
  ((with_reducible refine HS.out.mono ?_))
  rintro e w1 ⟨rfl, hb⟩
  have HB1 := Lib.hid hb
  clear hb HS
  go_wp2_with fail
  ((with_reducible refine (HMd.out w1 HB1.out).mono ?_))
  rintro e w2 ⟨rfl, hb⟩
  have HB2 := Lib.hid (bstep HB1.out hb)
  clear hb
  go_wp2
  go_ret
  exact ⟨rfl, HB2.out⟩
set_option maxRecDepth 100000 in
set_option maxHeartbeats 1000000 in
theorem lawArenaParts_out (V : VR) (b : Nat) (q : Option Addr) (n cap : Nat) (bs : List UInt8) (a k m : Int) (w : World) (hV : RV w V) (hMd : MadeAt w b q n cap bs) (h : k < 0 ∨ m < 0 ∨ 200000 < k ∨ 200000 < m ∨ a < 0 ∨ 200000 < a) :
    Calls Tryd.prog 9 #[.int .i64 (b : Int), .slice q n cap, .int .i64 a, .int .i64 k, .int .i64 m] w fun e w' => e = .returned (.bool true) ∧ Below w.heap.size w w' := by
  have HS := Lib.hid (shown_ok V w hV)
  have HMd := Lib.hid hMd
  clear hV hMd
  by_cases c0 : k < 0
  · clear h
    go_enter Tryd.func9, Tryd.ntmps9
    go_wp2_with fail
    ((with_reducible refine HS.out.mono ?_))
    rintro e w1 ⟨rfl, hb⟩
    have HB1 := Lib.hid hb
    clear hb HS
    go_wp2_with fail
    ((with_reducible refine (HMd.out.call w1 HB1.out).mono ?_))
    rintro e w2 ⟨p, g, rfl, hA, hb, hgg, hpp⟩
    have HA2 := Lib.hid hA
    have HB2 := Lib.hid (bstep HB1.out hb)
    clear hA hb
    go_wp2
    go_ret
    exact ⟨rfl, HB2.out⟩
  by_cases c1 : m < 0
  · clear h
    go_enter Tryd.func9, Tryd.ntmps9
    go_wp2_with fail
    ((with_reducible refine HS.out.mono ?_))
    rintro e w1 ⟨rfl, hb⟩
    have HB1 := Lib.hid hb
    clear hb HS
    go_wp2_with fail
    ((with_reducible refine (HMd.out.call w1 HB1.out).mono ?_))
    rintro e w2 ⟨p, g, rfl, hA, hb, hgg, hpp⟩
    have HA2 := Lib.hid hA
    have HB2 := Lib.hid (bstep HB1.out hb)
    clear hA hb
    go_wp2
    go_ret
    exact ⟨rfl, HB2.out⟩
  by_cases c2 : 200000 < k
  · clear h
    go_enter Tryd.func9, Tryd.ntmps9
    go_wp2_with fail
    ((with_reducible refine HS.out.mono ?_))
    rintro e w1 ⟨rfl, hb⟩
    have HB1 := Lib.hid hb
    clear hb HS
    go_wp2_with fail
    ((with_reducible refine (HMd.out.call w1 HB1.out).mono ?_))
    rintro e w2 ⟨p, g, rfl, hA, hb, hgg, hpp⟩
    have HA2 := Lib.hid hA
    have HB2 := Lib.hid (bstep HB1.out hb)
    clear hA hb
    go_wp2
    go_ret
    exact ⟨rfl, HB2.out⟩
  by_cases c3 : 200000 < m
  · clear h
    go_enter Tryd.func9, Tryd.ntmps9
    go_wp2_with fail
    ((with_reducible refine HS.out.mono ?_))
    rintro e w1 ⟨rfl, hb⟩
    have HB1 := Lib.hid hb
    clear hb HS
    go_wp2_with fail
    ((with_reducible refine (HMd.out.call w1 HB1.out).mono ?_))
    rintro e w2 ⟨p, g, rfl, hA, hb, hgg, hpp⟩
    have HA2 := Lib.hid hA
    have HB2 := Lib.hid (bstep HB1.out hb)
    clear hA hb
    go_wp2
    go_ret
    exact ⟨rfl, HB2.out⟩
  by_cases c4 : a < 0
  · clear h
    go_enter Tryd.func9, Tryd.ntmps9
    go_wp2_with fail
    ((with_reducible refine HS.out.mono ?_))
    rintro e w1 ⟨rfl, hb⟩
    have HB1 := Lib.hid hb
    clear hb HS
    go_wp2_with fail
    ((with_reducible refine (HMd.out.call w1 HB1.out).mono ?_))
    rintro e w2 ⟨p, g, rfl, hA, hb, hgg, hpp⟩
    have HA2 := Lib.hid hA
    have HB2 := Lib.hid (bstep HB1.out hb)
    clear hA hb
    go_wp2
    go_ret
    exact ⟨rfl, HB2.out⟩
  have c5 : 200000 < a := by omega
  clear h
  go_enter Tryd.func9, Tryd.ntmps9
  go_wp2_with fail
  ((with_reducible refine HS.out.mono ?_))
  rintro e w1 ⟨rfl, hb⟩
  have HB1 := Lib.hid hb
  clear hb HS
  go_wp2_with fail
  ((with_reducible refine (HMd.out.call w1 HB1.out).mono ?_))
  rintro e w2 ⟨p, g, rfl, hA, hb, hgg, hpp⟩
  have HA2 := Lib.hid hA
  have HB2 := Lib.hid (bstep HB1.out hb)
  clear hA hb
  go_wp2
  go_ret
  exact ⟨rfl, HB2.out⟩
set_option maxRecDepth 100000 in
set_option maxHeartbeats 1000000 in
theorem lawArenaParts_ok (V : VR) (b : Nat) (q : Option Addr) (n cap : Nat) (bs : List UInt8) (i k m : Nat) (w : World) (hV : RV w V) (hMd : MadeAt w b q n cap bs) (h1 : i + (k + m) ≤ bs.length) (hi : i ≤ 200000) (hk : k ≤ 200000) (hm : m ≤ 200000) :
    Calls Tryd.prog 9 #[.int .i64 (b : Int), .slice q n cap, .int .i64 (i : Int), .int .i64 (k : Int), .int .i64 (m : Int)] w fun e w' => e = .returned (.bool true) ∧ Below w.heap.size w w' := by
  have HS := Lib.hid (shown_ok V w hV)
  have HMd := Lib.hid hMd
  have HV := Lib.hid hV
  clear hV hMd
  have ii : InI (i : Int) := ⟨by omega, by omega⟩
  have ik : InI ((i : Int) + (k : Int)) := ⟨by omega, by omega⟩
  go_enter Tryd.func9, Tryd.ntmps9
  go_wp2_with fail
  ((with_reducible refine HS.out.mono ?_))
  rintro e w1 ⟨rfl, hb⟩
  have HB1 := Lib.hid hb
  clear hb HS
  go_wp2_with fail
  ((with_reducible refine (HMd.out.call w1 HB1.out).mono ?_))
  rintro e w2 ⟨p, g, rfl, hA, hb, hgg, hpp⟩
  have HA2 := Lib.hid hA
  have HB2 := Lib.hid (bstep HB1.out hb)
  clear hA hb
  obtain ⟨S1, hS1⟩ : ∃ S : ByteArray, S = ⟨((bs.drop i).take k).toArray⟩ := ⟨_, rfl⟩
  obtain ⟨S2, hS2⟩ : ∃ S : ByteArray, S = ⟨((bs.drop (i + k)).take m).toArray⟩ := ⟨_, rfl⟩
  have z1 : S1.size = k := by rw [hS1, mk_size]; simp; omega
  have z2 : S2.size = m := by rw [hS2, mk_size]; simp; omega
  have c1 : (Calls Tryd.prog 21 #[.pointer (some ⟨p, 0, none⟩), .int .i64 (i : Int), .int .i64 ((k : Int) + (m : Int))] w2 fun e w' => e = .returned (.tuple #[.string (S1 ++ S2), .int .i64 0]) ∧ Below w2.heap.size w2 w') := by
    have := read_ok p g bs i (k + m) w2 HA2.out h1
    rw [drop_take_app, mk_app, ← hS1, ← hS2, Int.natCast_add] at this
    exact this
  have c2 : ∀ W, Ar W p g bs → (Calls Tryd.prog 21 #[.pointer (some ⟨p, 0, none⟩), .int .i64 (i : Int), .int .i64 (k : Int)] W fun e w' => e = .returned (.tuple #[.string S1, .int .i64 0]) ∧ Below W.heap.size W w') := fun W hW => by
    rw [hS1]; exact read_ok p g bs i k W hW (by omega)
  have c3 : ∀ W, Ar W p g bs → (Calls Tryd.prog 21 #[.pointer (some ⟨p, 0, none⟩), .int .i64 ((i : Int) + (k : Int)), .int .i64 (m : Int)] W fun e w' => e = .returned (.tuple #[.string S2, .int .i64 0]) ∧ Below W.heap.size W w') := fun W hW => by
    have := read_ok p g bs (i + k) m W hW (by omega)
    rw [← hS2, Int.natCast_add] at this
    exact this
  have C1 := Lib.hid c1
  have C2 := Lib.hid c2
  have C3 := Lib.hid c3
  clear c1 c2 c3 hS1 hS2
  have hC := C1.out
  have HC := Lib.hid hC
  clear hC
  go_wp2_with fail
  ((with_reducible refine HC.out.mono ?_))
  rintro e w3 ⟨rfl, hb⟩
  have HB3 := Lib.hid (bstep HB2.out hb)
  have HA3 := Lib.hid (HA2.out.below hb)
  clear hb HC
  have hC := C2.out w3 HA3.out
  have HC := Lib.hid hC
  clear hC
  go_wp2_with fail
  ((with_reducible refine HC.out.mono ?_))
  rintro e w4 ⟨rfl, hb⟩
  have HB4 := Lib.hid (bstep HB3.out hb)
  have HA4 := Lib.hid (HA3.out.below hb)
  clear hb HC
  have hC := C3.out w4 HA4.out
  have HC := Lib.hid hC
  clear hC
  go_wp2_with fail
  ((with_reducible refine HC.out.mono ?_))
  rintro e w5 ⟨rfl, hb⟩
  have HB5 := Lib.hid (bstep HB4.out hb)
  have HA5 := Lib.hid (HA4.out.below hb)
  clear hb HC
  go_wp2
  go_ret
  exact ⟨rfl, HB5.out⟩
set_option maxRecDepth 100000 in
set_option maxHeartbeats 1000000 in
theorem lawArenaParts_far (V : VR) (b : Nat) (q : Option Addr) (n cap : Nat) (bs : List UInt8) (i k m : Nat) (w : World) (hV : RV w V) (hMd : MadeAt w b q n cap bs) (h1 : i + k ≤ bs.length) (h2 : bs.length < i + (k + m)) (hi : i ≤ 200000) (hk : k ≤ 200000) (hm : m ≤ 200000) :
    Calls Tryd.prog 9 #[.int .i64 (b : Int), .slice q n cap, .int .i64 (i : Int), .int .i64 (k : Int), .int .i64 (m : Int)] w fun e w' => e = .returned (.bool true) ∧ Below w.heap.size w w' := by
  have HS := Lib.hid (shown_ok V w hV)
  have HMd := Lib.hid hMd
  have HV := Lib.hid hV
  clear hV hMd
  have ii : InI (i : Int) := ⟨by omega, by omega⟩
  have ik : InI ((i : Int) + (k : Int)) := ⟨by omega, by omega⟩
  go_enter Tryd.func9, Tryd.ntmps9
  go_wp2_with fail
  ((with_reducible refine HS.out.mono ?_))
  rintro e w1 ⟨rfl, hb⟩
  have HB1 := Lib.hid hb
  clear hb HS
  go_wp2_with fail
  ((with_reducible refine (HMd.out.call w1 HB1.out).mono ?_))
  rintro e w2 ⟨p, g, rfl, hA, hb, hgg, hpp⟩
  have HA2 := Lib.hid hA
  have HB2 := Lib.hid (bstep HB1.out hb)
  clear hA hb
  have hC := read_bad V p g bs (i : Int) ((k : Int) + (m : Int)) w2 (HV.out.below HB2.out) HA2.out ii (by unfold okB; omega)
  have HC := Lib.hid hC
  clear hC
  go_wp2_with fail
  ((with_reducible refine HC.out.mono ?_))
  rintro e w3 ⟨rfl, hb⟩
  have HB3 := Lib.hid (bstep HB2.out hb)
  have HA3 := Lib.hid (HA2.out.below hb)
  clear hb HC
  have hC := read_ok p g bs i k w3 HA3.out h1
  have HC := Lib.hid hC
  clear hC
  go_wp2_with fail
  ((with_reducible refine HC.out.mono ?_))
  rintro e w4 ⟨rfl, hb⟩
  have HB4 := Lib.hid (bstep HB3.out hb)
  have HA4 := Lib.hid (HA3.out.below hb)
  clear hb HC
  have hC := read_bad V p g bs ((i : Int) + (k : Int)) (m : Int) w4 (HV.out.below HB4.out) HA4.out ik (by unfold okB; omega)
  have HC := Lib.hid hC
  clear hC
  go_wp2_with fail
  ((with_reducible refine HC.out.mono ?_))
  rintro e w5 ⟨rfl, hb⟩
  have HB5 := Lib.hid (bstep HB4.out hb)
  have HA5 := Lib.hid (HA4.out.below hb)
  clear hb HC
  go_wp2
  go_ret
  exact ⟨rfl, HB5.out⟩
set_option maxRecDepth 100000 in
set_option maxHeartbeats 1000000 in
theorem lawArenaParts_no (V : VR) (b : Nat) (q : Option Addr) (n cap : Nat) (bs : List UInt8) (i k m : Nat) (w : World) (hV : RV w V) (hMd : MadeAt w b q n cap bs) (h1 : bs.length < i + k) (hi : i ≤ 200000) (hk : k ≤ 200000) (hm : m ≤ 200000) :
    Calls Tryd.prog 9 #[.int .i64 (b : Int), .slice q n cap, .int .i64 (i : Int), .int .i64 (k : Int), .int .i64 (m : Int)] w fun e w' => e = .returned (.bool true) ∧ Below w.heap.size w w' := by
  have HS := Lib.hid (shown_ok V w hV)
  have HMd := Lib.hid hMd
  have HV := Lib.hid hV
  clear hV hMd
  have ii : InI (i : Int) := ⟨by omega, by omega⟩
  have ik : InI ((i : Int) + (k : Int)) := ⟨by omega, by omega⟩
  go_enter Tryd.func9, Tryd.ntmps9
  go_wp2_with fail
  ((with_reducible refine HS.out.mono ?_))
  rintro e w1 ⟨rfl, hb⟩
  have HB1 := Lib.hid hb
  clear hb HS
  go_wp2_with fail
  ((with_reducible refine (HMd.out.call w1 HB1.out).mono ?_))
  rintro e w2 ⟨p, g, rfl, hA, hb, hgg, hpp⟩
  have HA2 := Lib.hid hA
  have HB2 := Lib.hid (bstep HB1.out hb)
  clear hA hb
  have hC := read_bad V p g bs (i : Int) ((k : Int) + (m : Int)) w2 (HV.out.below HB2.out) HA2.out ii (by unfold okB; omega)
  have HC := Lib.hid hC
  clear hC
  go_wp2_with fail
  ((with_reducible refine HC.out.mono ?_))
  rintro e w3 ⟨rfl, hb⟩
  have HB3 := Lib.hid (bstep HB2.out hb)
  have HA3 := Lib.hid (HA2.out.below hb)
  clear hb HC
  have hC := read_bad V p g bs (i : Int) (k : Int) w3 (HV.out.below HB3.out) HA3.out ii (by unfold okB; omega)
  have HC := Lib.hid hC
  clear hC
  go_wp2_with fail
  ((with_reducible refine HC.out.mono ?_))
  rintro e w4 ⟨rfl, hb⟩
  have HB4 := Lib.hid (bstep HB3.out hb)
  have HA4 := Lib.hid (HA3.out.below hb)
  clear hb HC
  have hC := read_bad V p g bs ((i : Int) + (k : Int)) (m : Int) w4 (HV.out.below HB4.out) HA4.out ik (by unfold okB; omega)
  have HC := Lib.hid hC
  clear hC
  go_wp2_with fail
  ((with_reducible refine HC.out.mono ?_))
  rintro e w5 ⟨rfl, hb⟩
  have HB5 := Lib.hid (bstep HB4.out hb)
  have HA5 := Lib.hid (HA4.out.below hb)
  clear hb HC
  go_wp2
  go_ret
  exact ⟨rfl, HB5.out⟩

theorem lawArenaParts (V : VR) (b : Int) (q : Option Addr) (n cap : Nat) (a k m : Int) (w : World) (hV : RV w V) (hb : InI b) (hl : n ≤ cap) (hm : cap ≤ maxLen) (hI : ∃ xs, OL w q xs ∧ xs.length = n) (ha : InI a) (hk : InI k) (hm' : InI m) :
    Calls Tryd.prog 9 #[.int .i64 b, .slice q n cap, .int .i64 a, .int .i64 k, .int .i64 m] w fun e w' => e = .returned (.bool true) ∧ Below w.heap.size w w' := by
  by_cases h : b < 1 ∨ 32 < b
  · exact lawArenaParts_bad V b q n cap a k m w hV hb h
  · obtain ⟨b, rfl⟩ : ∃ c : Nat, b = c := ⟨b.toNat, by omega⟩
    obtain ⟨bs, hbl, hMd⟩ := made_at V b q n cap w hV (by omega) (by omega) hI hl hm
    by_cases h2 : k < 0 ∨ m < 0 ∨ 200000 < k ∨ 200000 < m ∨ a < 0 ∨ 200000 < a
    · exact lawArenaParts_out V b q n cap bs a k m w hV hMd h2
    · obtain ⟨i, rfl⟩ : ∃ c : Nat, a = c := ⟨a.toNat, by omega⟩
      obtain ⟨k, rfl⟩ : ∃ c : Nat, k = c := ⟨k.toNat, by omega⟩
      obtain ⟨m, rfl⟩ : ∃ c : Nat, m = c := ⟨m.toNat, by omega⟩
      by_cases h3 : i + (k + m) ≤ bs.length
      · exact lawArenaParts_ok V b q n cap bs i k m w hV hMd h3 (by omega) (by omega) (by omega)
      · by_cases h4 : i + k ≤ bs.length
        · exact lawArenaParts_far V b q n cap bs i k m w hV hMd h4 (by omega) (by omega) (by omega) (by omega)
        · exact lawArenaParts_no V b q n cap bs i k m w hV hMd (by omega) (by omega) (by omega) (by omega)
end Go.Proofs.YtchaojdjgbeepaaDoor
