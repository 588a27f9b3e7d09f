/-
  selionlaw03.ArenaBack, for every input.
-/
import Derived.Test.YtchaojdjgbeepaaDoorArY
namespace Go.Proofs.YtchaojdjgbeepaaDoor
open Go.RowKit Go.Lib Go.Shelf
attribute [local go_sem] Oper.semAt_some

theorem read_all (p g : Nat) (bs : List UInt8) (T : ByteArray) (N : Nat) (hT : T = ⟨bs.toArray⟩) (hN : bs.length = N) (W : World) (hA : Ar W p g bs) :
    Calls Tryd.prog 21 #[.pointer (some ⟨p, 0, none⟩), .int .i64 0, .int .i64 (N : Int)] W fun e w' => e = .returned (.tuple #[.string T, .int .i64 0]) ∧ Below W.heap.size W w' := by
  have h5 := read_ok p g bs 0 bs.length W hA (by omega)
  rw [List.drop_zero, List.take_length, ← hT, hN] at h5
  exact h5
theorem size_at (p g : Nat) (bs : List UInt8) (N : Nat) (hN : bs.length = N) (W : World) (hA : Ar W p g bs) :
    Calls Tryd.prog 14 #[.pointer (some ⟨p, 0, none⟩)] W fun e w' => e = .returned (.int .i64 (N : Int)) ∧ W = w' := by
  subst hN
  exact size_ok p g bs W hA
theorem wrL_mid' (bs : List UInt8) (i : Nat) (l : List UInt8) (h : i ≤ bs.length) : ((wrL bs i l).drop i).take l.length = l := by
  have h1 : (bs.take i).length = i := by simp; omega
  rw [wrL, List.append_assoc, List.drop_append_of_le_length (by omega), List.drop_eq_nil_of_le (by omega)]
  simp
theorem read_mid (p g : Nat) (bs : List UInt8) (i : Nat) (t : ByteArray) (W : World) (hA : Ar W p g (wrL bs i t.data.toList)) (h : i + t.size ≤ bs.length) :
    Calls Tryd.prog 21 #[.pointer (some ⟨p, 0, none⟩), .int .i64 (i : Int), .int .i64 (t.size : Int)] W fun e w' => e = .returned (.tuple #[.string t, .int .i64 0]) ∧ Below W.heap.size W w' := by
  have h5 := read_ok p g _ i t.size W hA (by rw [wrL_len _ _ _ (by simpa using h)]; exact h)
  have h6 := wrL_mid' bs i t.data.toList (by omega)
  rw [show t.data.toList.length = t.size from rfl] at h6
  rw [h6] at h5
  exact h5
theorem ext_toList (T : ByteArray) (a b : Nat) : (T.extract a b).data.toList = (T.data.toList.take b).drop a := by
  rw [ByteArray.data_extract, Array.toList_extract, List.extract_eq_take_drop]
  rw [List.drop_take]
theorem wrL_join (bs : List UInt8) (i : Nat) (t : ByteArray) : (⟨(wrL bs i t.data.toList).toArray⟩ : ByteArray) = (⟨bs.toArray⟩ : ByteArray).extract 0 i ++ t ++ (⟨bs.toArray⟩ : ByteArray).extract (i + t.size) (⟨bs.toArray⟩ : ByteArray).size := by
  apply ByteArray.ext
  apply Array.ext'
  rw [ByteArray.data_append, ByteArray.data_append, Array.toList_append, Array.toList_append, ext_toList, ext_toList, mk_size]
  have e : (⟨bs.toArray⟩ : ByteArray).size = bs.length := rfl
  rw [e]
  simp [wrL]
set_option maxRecDepth 100000 in
set_option maxHeartbeats 1000000 in
theorem lawArenaBack_bad0 (V : VR) (b : Int) (q : Option Addr) (n cap : Nat) (a : Int) (s : ByteArray) (w : World) (hV : RV w V) (hb : InI b) (h : b < 1 ∨ 32 < b) (hs : s.size ≤ 200) :
    Calls Tryd.prog 5 #[.int .i64 b, .slice q n cap, .int .i64 a, .string s] w fun e w' => e = .returned (.bool true) ∧ Below w.heap.size w w' := by
  have HS := Lib.hid (shown_ok V w hV)
  have HMd := Lib.hid (fun W (hW : Below w.heap.size w W) => made_bad V b (.slice q n cap) W (hV.below hW) hb h)
  clear hV hb h
  go_enter Tryd.func5, Tryd.ntmps5
  go_wp2_with fail
  ((with_reducible refine HS.out.mono ?_))
  rintro e w1 ⟨rfl, hb⟩
  have HB1 := Lib.hid hb
  clear hb HS
  go_wp2_with fail
  ((with_reducible refine (HMd.out w1 HB1.out).mono ?_))
  rintro e w2 ⟨rfl, hb⟩
  have HB2 := Lib.hid (bstep HB1.out hb)
  clear hb
  go_wp2
  go_ret
  exact ⟨rfl, HB2.out⟩
set_option maxRecDepth 100000 in
set_option maxHeartbeats 1000000 in
theorem lawArenaBack_bad1 (V : VR) (b : Int) (q : Option Addr) (n cap : Nat) (a : Int) (s : ByteArray) (w : World) (hV : RV w V) (hb : InI b) (h : b < 1 ∨ 32 < b) (hs : 200 < s.size) (hm : s.size ≤ 9223372036854775807) :
    Calls Tryd.prog 5 #[.int .i64 b, .slice q n cap, .int .i64 a, .string s] w fun e w' => e = .returned (.bool true) ∧ Below w.heap.size w w' := by
  have HS := Lib.hid (shown_ok V w hV)
  have HMd := Lib.hid (fun W (hW : Below w.heap.size w W) => made_bad V b (.slice q n cap) W (hV.below hW) hb h)
  clear hV hb h
  go_enter Tryd.func5, Tryd.ntmps5
  go_wp2_with fail
  ((with_reducible refine HS.out.mono ?_))
  rintro e w1 ⟨rfl, hb⟩
  have HB1 := Lib.hid hb
  clear hb HS
  go_wp2_with fail
  ((with_reducible refine (HMd.out w1 HB1.out).mono ?_))
  rintro e w2 ⟨rfl, hb⟩
  have HB2 := Lib.hid (bstep HB1.out hb)
  clear hb
  go_wp2
  go_ret
  exact ⟨rfl, HB2.out⟩
set_option maxRecDepth 100000 in
set_option maxHeartbeats 1000000 in
theorem lawArenaBack_non0 (V : VR) (b : Nat) (q : Option Addr) (n cap : Nat) (bs : List UInt8) (a : Int) (s : ByteArray) (w : World) (hV : RV w V) (hMd : MadeAt w b q n cap bs) (ha : InI a) (h1 : a < 0) (hl : bs.length ≤ 131072) (hs : s.size ≤ 200) :
    Calls Tryd.prog 5 #[.int .i64 (b : Int), .slice q n cap, .int .i64 a, .string s] w fun e w' => e = .returned (.bool true) ∧ Below w.heap.size w w' := by
  have HN : Hid (¬ okB bs.length a (s.size : Int) 1) := Lib.hid (by unfold okB; omega)
  have HS := Lib.hid (shown_ok V w hV)
  have HMd := Lib.hid hMd
  have HV := Lib.hid hV
  obtain ⟨N, hN⟩ : ∃ N, bs.length = N := ⟨_, rfl⟩
  obtain ⟨T1, hT1⟩ : ∃ T : ByteArray, T = ⟨bs.toArray⟩ := ⟨_, rfl⟩
  have z1 : T1.size = N := by rw [hT1, mk_size, hN]
  have CZ := Lib.hid (fun p g => size_at p g bs N hN)
  have CR := Lib.hid (fun p g => read_all p g bs T1 N hT1 hN)
  clear hV hMd hT1
  rw [hN] at hl
  have dN : decide (a < 0) = true := by simpa using h1
  have e1 : IntKind.i64.wrap ((N : Int) - (s.size : Int)) = (N : Int) - (s.size : Int) := IntWalk.i64_in _ (by omega)
  go_enter Tryd.func5, Tryd.ntmps5
  go_wp2_with fail
  ((with_reducible refine HS.out.mono ?_))
  rintro e w1 ⟨rfl, hb⟩
  have HB1 := Lib.hid hb
  clear hb HS
  go_wp2_with fail
  ((with_reducible refine (HMd.out.call w1 HB1.out).mono ?_))
  rintro e w2 ⟨p, g, rfl, hA, hb, hgg, hpp⟩
  have HA2 := Lib.hid hA
  have HB2 := Lib.hid (bstep HB1.out hb)
  clear hA hb
  have HC := Lib.hid (CZ.out p g w2 HA2.out)
  go_wp2_with fail
  ((with_reducible refine HC.out.mono ?_))
  rintro e w' ⟨rfl, rfl⟩
  clear HC
  have hC := CR.out p g w2 HA2.out
  have HC := Lib.hid hC
  clear hC
  go_wp2_with fail
  ((with_reducible refine HC.out.mono ?_))
  rintro e w3 ⟨rfl, hb⟩
  have HB3 := Lib.hid (bstep HB2.out hb)
  have HA3 := Lib.hid (HA2.out.below hb)
  clear hb HC
  have hC := write_bad V p g bs a s w3 (HV.out.below HB3.out) HA3.out ha HN.out
  have HC := Lib.hid hC
  clear hC
  go_wp2_with fail
  ((with_reducible refine HC.out.mono ?_))
  rintro e w4 ⟨rfl, hb⟩
  have HB4 := Lib.hid (bstep HB3.out hb)
  have HA4 := Lib.hid (HA3.out.below hb)
  clear hb HC
  have HC := Lib.hid (CZ.out p g w4 HA4.out)
  go_wp2_with fail
  ((with_reducible refine HC.out.mono ?_))
  rintro e w' ⟨rfl, rfl⟩
  clear HC
  have hC := CR.out p g w4 HA4.out
  have HC := Lib.hid hC
  clear hC
  go_wp2_with fail
  ((with_reducible refine HC.out.mono ?_))
  rintro e w5 ⟨rfl, hb⟩
  have HB5 := Lib.hid (bstep HB4.out hb)
  have HA5 := Lib.hid (HA4.out.below hb)
  clear hb HC
  have HC := Lib.hid (CZ.out p g w5 HA5.out)
  go_wp2_with fail
  ((with_reducible refine HC.out.mono ?_))
  rintro e w' ⟨rfl, rfl⟩
  clear HC
  have HC := Lib.hid (CZ.out p g w5 HA5.out)
  go_wp2_with fail
  ((with_reducible refine HC.out.mono ?_))
  rintro e w' ⟨rfl, rfl⟩
  clear HC
  go_wp2
  go_ret
  exact ⟨rfl, HB5.out⟩
set_option maxRecDepth 100000 in
set_option maxHeartbeats 1000000 in
theorem lawArenaBack_nop0 (V : VR) (b : Nat) (q : Option Addr) (n cap : Nat) (bs : List UInt8) (a : Int) (s : ByteArray) (w : World) (hV : RV w V) (hMd : MadeAt w b q n cap bs) (ha : InI a) (h1 : 0 ≤ a) (h2 : (bs.length : Int) - (s.size : Int) < a) (hl : bs.length ≤ 131072) (hs : s.size ≤ 200) :
    Calls Tryd.prog 5 #[.int .i64 (b : Int), .slice q n cap, .int .i64 a, .string s] w fun e w' => e = .returned (.bool true) ∧ Below w.heap.size w w' := by
  have HN : Hid (¬ okB bs.length a (s.size : Int) 1) := Lib.hid (by unfold okB; omega)
  have HS := Lib.hid (shown_ok V w hV)
  have HMd := Lib.hid hMd
  have HV := Lib.hid hV
  obtain ⟨N, hN⟩ : ∃ N, bs.length = N := ⟨_, rfl⟩
  obtain ⟨T1, hT1⟩ : ∃ T : ByteArray, T = ⟨bs.toArray⟩ := ⟨_, rfl⟩
  have z1 : T1.size = N := by rw [hT1, mk_size, hN]
  have CZ := Lib.hid (fun p g => size_at p g bs N hN)
  have CR := Lib.hid (fun p g => read_all p g bs T1 N hT1 hN)
  clear hV hMd hT1
  rw [hN] at hl h2
  have dN : decide (a < 0) = false := by simpa using h1
  have e1 : IntKind.i64.wrap ((N : Int) - (s.size : Int)) = (N : Int) - (s.size : Int) := IntWalk.i64_in _ (by omega)
  have dP : decide ((N : Int) - (s.size : Int) < a) = true := by simpa using h2
  go_enter Tryd.func5, Tryd.ntmps5
  go_wp2_with fail
  ((with_reducible refine HS.out.mono ?_))
  rintro e w1 ⟨rfl, hb⟩
  have HB1 := Lib.hid hb
  clear hb HS
  go_wp2_with fail
  ((with_reducible refine (HMd.out.call w1 HB1.out).mono ?_))
  rintro e w2 ⟨p, g, rfl, hA, hb, hgg, hpp⟩
  have HA2 := Lib.hid hA
  have HB2 := Lib.hid (bstep HB1.out hb)
  clear hA hb
  have HC := Lib.hid (CZ.out p g w2 HA2.out)
  go_wp2_with fail
  ((with_reducible refine HC.out.mono ?_))
  rintro e w' ⟨rfl, rfl⟩
  clear HC
  have hC := CR.out p g w2 HA2.out
  have HC := Lib.hid hC
  clear hC
  go_wp2_with fail
  ((with_reducible refine HC.out.mono ?_))
  rintro e w3 ⟨rfl, hb⟩
  have HB3 := Lib.hid (bstep HB2.out hb)
  have HA3 := Lib.hid (HA2.out.below hb)
  clear hb HC
  have hC := write_bad V p g bs a s w3 (HV.out.below HB3.out) HA3.out ha HN.out
  have HC := Lib.hid hC
  clear hC
  go_wp2_with fail
  ((with_reducible refine HC.out.mono ?_))
  rintro e w4 ⟨rfl, hb⟩
  have HB4 := Lib.hid (bstep HB3.out hb)
  have HA4 := Lib.hid (HA3.out.below hb)
  clear hb HC
  have HC := Lib.hid (CZ.out p g w4 HA4.out)
  go_wp2_with fail
  ((with_reducible refine HC.out.mono ?_))
  rintro e w' ⟨rfl, rfl⟩
  clear HC
  have hC := CR.out p g w4 HA4.out
  have HC := Lib.hid hC
  clear hC
  go_wp2_with fail
  ((with_reducible refine HC.out.mono ?_))
  rintro e w5 ⟨rfl, hb⟩
  have HB5 := Lib.hid (bstep HB4.out hb)
  have HA5 := Lib.hid (HA4.out.below hb)
  clear hb HC
  have HC := Lib.hid (CZ.out p g w5 HA5.out)
  go_wp2_with fail
  ((with_reducible refine HC.out.mono ?_))
  rintro e w' ⟨rfl, rfl⟩
  clear HC
  have HC := Lib.hid (CZ.out p g w5 HA5.out)
  go_wp2_with fail
  ((with_reducible refine HC.out.mono ?_))
  rintro e w' ⟨rfl, rfl⟩
  clear HC
  have HC := Lib.hid (CZ.out p g w5 HA5.out)
  go_wp2_with fail
  ((with_reducible refine HC.out.mono ?_))
  rintro e w' ⟨rfl, rfl⟩
  clear HC
  go_wp2
  go_ret
  exact ⟨rfl, HB5.out⟩
set_option maxRecDepth 100000 in
set_option maxHeartbeats 1000000 in
theorem lawArenaBack_ok0 (V : VR) (b : Nat) (q : Option Addr) (n cap : Nat) (bs : List UInt8) (i : Nat) (s : ByteArray) (w : World) (hV : RV w V) (hMd : MadeAt w b q n cap bs) (h1 : i + s.size ≤ bs.length) (hl : bs.length ≤ 131072) (hs : s.size ≤ 200) :
    Calls Tryd.prog 5 #[.int .i64 (b : Int), .slice q n cap, .int .i64 (i : Int), .string s] w fun e w' => e = .returned (.bool true) ∧ Below w.heap.size w w' := by
  have HS := Lib.hid (shown_ok V w hV)
  have HMd := Lib.hid hMd
  have HV := Lib.hid hV
  obtain ⟨N, hN⟩ : ∃ N, bs.length = N := ⟨_, rfl⟩
  obtain ⟨T1, hT1⟩ : ∃ T : ByteArray, T = ⟨bs.toArray⟩ := ⟨_, rfl⟩
  have z1 : T1.size = N := by rw [hT1, mk_size, hN]
  have CZ := Lib.hid (fun p g => size_at p g bs N hN)
  have CR := Lib.hid (fun p g => read_all p g bs T1 N hT1 hN)
  have hN2 : (wrL bs i s.data.toList).length = N := by rw [wrL_len _ _ _ (by simpa using h1), hN]
  obtain ⟨T2, hT2⟩ : ∃ T : ByteArray, T = ⟨(wrL bs i s.data.toList).toArray⟩ := ⟨_, rfl⟩
  have z2 : T2.size = N := by rw [hT2, mk_size, hN2]
  have CZ2 := Lib.hid (fun p g => size_at p g (wrL bs i s.data.toList) N hN2)
  have CR2 := Lib.hid (fun p g => read_all p g (wrL bs i s.data.toList) T2 N hT2 hN2)
  have CW := Lib.hid (fun p g W hW => write_ok p g bs i s W hW h1)
  have CRt := Lib.hid (fun p g W hW => read_mid p g bs i s W hW h1)
  have e1 : IntKind.i64.wrap ((N : Int) - (s.size : Int)) = (N : Int) - (s.size : Int) := IntWalk.i64_in _ (by omega)
  have e2 : IntKind.i64.wrap ((i : Int) + (s.size : Int)) = (i : Int) + (s.size : Int) := IntWalk.i64_in _ (by omega)
  have hj : T2 = T1.extract 0 i ++ s ++ T1.extract (i + s.size) N := by rw [← z1, hT1, hT2]; exact wrL_join bs i s
  have HJ := Lib.hid hj
  rw [hN] at hl h1
  have dP : decide ((N : Int) - (s.size : Int) < (i : Int)) = false := by simp; omega
  clear hV hMd hT1 hT2 hj
  go_enter Tryd.func5, Tryd.ntmps5
  go_wp2_with fail
  ((with_reducible refine HS.out.mono ?_))
  rintro e w1 ⟨rfl, hb⟩
  have HB1 := Lib.hid hb
  clear hb HS
  go_wp2_with fail
  ((with_reducible refine (HMd.out.call w1 HB1.out).mono ?_))
  rintro e w2 ⟨p, g, rfl, hA, hb, hgg, hpp⟩
  have HA2 := Lib.hid hA
  have HB2 := Lib.hid (bstep HB1.out hb)
  clear hA hb
  have HC := Lib.hid (CZ.out p g w2 HA2.out)
  go_wp2_with fail
  ((with_reducible refine HC.out.mono ?_))
  rintro e w' ⟨rfl, rfl⟩
  clear HC
  have hC := CR.out p g w2 HA2.out
  have HC := Lib.hid hC
  clear hC
  go_wp2_with fail
  ((with_reducible refine HC.out.mono ?_))
  rintro e w3 ⟨rfl, hb⟩
  have HB3 := Lib.hid (bstep HB2.out hb)
  have HA3 := Lib.hid (HA2.out.below hb)
  clear hb HC
  have hC := CW.out p g w3 HA3.out
  have HC := Lib.hid hC
  clear hC
  go_wp2_with fail
  ((with_reducible refine HC.out.mono ?_))
  rintro e w4 ⟨rfl, hA, hU⟩
  have HB4 := Lib.hid (Upd.below HB3.out hU HB3.out.size (Nat.le_trans HB1.out.size hgg))
  have HA4 := Lib.hid hA
  clear hA hU HC
  have HC := Lib.hid (CZ2.out p g w4 HA4.out)
  go_wp2_with fail
  ((with_reducible refine HC.out.mono ?_))
  rintro e w' ⟨rfl, rfl⟩
  clear HC
  have hC := CR2.out p g w4 HA4.out
  have HC := Lib.hid hC
  clear hC
  go_wp2_with fail
  ((with_reducible refine HC.out.mono ?_))
  rintro e w5 ⟨rfl, hb⟩
  have HB5 := Lib.hid (bstep HB4.out hb)
  have HA5 := Lib.hid (HA4.out.below hb)
  clear hb HC
  have HC := Lib.hid (CZ2.out p g w5 HA5.out)
  go_wp2_with fail
  ((with_reducible refine HC.out.mono ?_))
  rintro e w' ⟨rfl, rfl⟩
  clear HC
  have HC := Lib.hid (CZ2.out p g w5 HA5.out)
  go_wp2_with fail
  ((with_reducible refine HC.out.mono ?_))
  rintro e w' ⟨rfl, rfl⟩
  clear HC
  have HC := Lib.hid (CZ2.out p g w5 HA5.out)
  go_wp2_with fail
  ((with_reducible refine HC.out.mono ?_))
  rintro e w' ⟨rfl, rfl⟩
  clear HC
  have hC := CRt.out p g w5 HA5.out
  have HC := Lib.hid hC
  clear hC
  go_wp2_with fail
  ((with_reducible refine HC.out.mono ?_))
  rintro e w6 ⟨rfl, hb⟩
  have HB6 := Lib.hid (bstep HB5.out hb)
  have HA6 := Lib.hid (HA5.out.below hb)
  clear hb HC
  have e3 : (0 : Int) ≤ (i : Int) + (s.size : Int) := by omega
  have e4 : ((i : Int) + (s.size : Int)).toNat = i + s.size := by omega
  have e5 : (i : Int) + (s.size : Int) ≤ (N : Int) := by omega
  have e6 : (i : Int) ≤ (N : Int) := by omega
  have e7 : i ≤ N := by omega
  go_wp2
  go_quiet (fail)
  go_wp2
  go_ret
  refine ⟨?_, Ad.below_drewN HB6.out _⟩
  show Ending.returned (.bool (T2.toList == (T1.extract 0 i ++ s ++ T1.extract (i + s.size) N).toList)) = _
  rw [← HJ.out]
  simp
set_option maxRecDepth 100000 in
set_option maxHeartbeats 1000000 in
theorem lawArenaBack_non1 (V : VR) (b : Nat) (q : Option Addr) (n cap : Nat) (bs : List UInt8) (a : Int) (s : ByteArray) (t : ByteArray) (w : World) (hV : RV w V) (hMd : MadeAt w b q n cap bs) (ha : InI a) (h1 : a < 0) (hl : bs.length ≤ 131072) (hs : 200 < s.size) (hm : s.size ≤ 9223372036854775807) (ht : t = s.extract 0 200) :
    Calls Tryd.prog 5 #[.int .i64 (b : Int), .slice q n cap, .int .i64 a, .string s] w fun e w' => e = .returned (.bool true) ∧ Below w.heap.size w w' := by
  have HN : Hid (¬ okB bs.length a (t.size : Int) 1) := Lib.hid (by unfold okB; omega)
  have HS := Lib.hid (shown_ok V w hV)
  have HMd := Lib.hid hMd
  have HV := Lib.hid hV
  obtain ⟨N, hN⟩ : ∃ N, bs.length = N := ⟨_, rfl⟩
  obtain ⟨T1, hT1⟩ : ∃ T : ByteArray, T = ⟨bs.toArray⟩ := ⟨_, rfl⟩
  have z1 : T1.size = N := by rw [hT1, mk_size, hN]
  have CZ := Lib.hid (fun p g => size_at p g bs N hN)
  have CR := Lib.hid (fun p g => read_all p g bs T1 N hT1 hN)
  have zt1 : t.size ≤ 200 := by rw [ht]; simp; omega
  have zt2 : 200 ≤ t.size := by rw [ht]; simp; omega
  have HTx := Lib.hid ht
  clear ht
  clear hV hMd hT1
  rw [hN] at hl
  have dN : decide (a < 0) = true := by simpa using h1
  have e1 : IntKind.i64.wrap ((N : Int) - (t.size : Int)) = (N : Int) - (t.size : Int) := IntWalk.i64_in _ (by omega)
  go_enter Tryd.func5, Tryd.ntmps5
  go_wp2_with fail
  ((with_reducible refine HS.out.mono ?_))
  rintro e w1 ⟨rfl, hb⟩
  have HB1 := Lib.hid hb
  clear hb HS
  go_wp2_with fail
  rw [← HTx.out]
  ((with_reducible refine (HMd.out.call w1 HB1.out).mono ?_))
  rintro e w2 ⟨p, g, rfl, hA, hb, hgg, hpp⟩
  have HA2 := Lib.hid hA
  have HB2 := Lib.hid (bstep HB1.out hb)
  clear hA hb
  have HC := Lib.hid (CZ.out p g w2 HA2.out)
  go_wp2_with fail
  ((with_reducible refine HC.out.mono ?_))
  rintro e w' ⟨rfl, rfl⟩
  clear HC
  have hC := CR.out p g w2 HA2.out
  have HC := Lib.hid hC
  clear hC
  go_wp2_with fail
  ((with_reducible refine HC.out.mono ?_))
  rintro e w3 ⟨rfl, hb⟩
  have HB3 := Lib.hid (bstep HB2.out hb)
  have HA3 := Lib.hid (HA2.out.below hb)
  clear hb HC
  have hC := write_bad V p g bs a t w3 (HV.out.below HB3.out) HA3.out ha HN.out
  have HC := Lib.hid hC
  clear hC
  go_wp2_with fail
  ((with_reducible refine HC.out.mono ?_))
  rintro e w4 ⟨rfl, hb⟩
  have HB4 := Lib.hid (bstep HB3.out hb)
  have HA4 := Lib.hid (HA3.out.below hb)
  clear hb HC
  have HC := Lib.hid (CZ.out p g w4 HA4.out)
  go_wp2_with fail
  ((with_reducible refine HC.out.mono ?_))
  rintro e w' ⟨rfl, rfl⟩
  clear HC
  have hC := CR.out p g w4 HA4.out
  have HC := Lib.hid hC
  clear hC
  go_wp2_with fail
  ((with_reducible refine HC.out.mono ?_))
  rintro e w5 ⟨rfl, hb⟩
  have HB5 := Lib.hid (bstep HB4.out hb)
  have HA5 := Lib.hid (HA4.out.below hb)
  clear hb HC
  have HC := Lib.hid (CZ.out p g w5 HA5.out)
  go_wp2_with fail
  ((with_reducible refine HC.out.mono ?_))
  rintro e w' ⟨rfl, rfl⟩
  clear HC
  have HC := Lib.hid (CZ.out p g w5 HA5.out)
  go_wp2_with fail
  ((with_reducible refine HC.out.mono ?_))
  rintro e w' ⟨rfl, rfl⟩
  clear HC
  go_wp2
  go_ret
  exact ⟨rfl, HB5.out⟩
set_option maxRecDepth 100000 in
set_option maxHeartbeats 1000000 in
theorem lawArenaBack_nop1 (V : VR) (b : Nat) (q : Option Addr) (n cap : Nat) (bs : List UInt8) (a : Int) (s : ByteArray) (t : ByteArray) (w : World) (hV : RV w V) (hMd : MadeAt w b q n cap bs) (ha : InI a) (h1 : 0 ≤ a) (h2 : (bs.length : Int) - (t.size : Int) < a) (hl : bs.length ≤ 131072) (hs : 200 < s.size) (hm : s.size ≤ 9223372036854775807) (ht : t = s.extract 0 200) :
    Calls Tryd.prog 5 #[.int .i64 (b : Int), .slice q n cap, .int .i64 a, .string s] w fun e w' => e = .returned (.bool true) ∧ Below w.heap.size w w' := by
  have HN : Hid (¬ okB bs.length a (t.size : Int) 1) := Lib.hid (by unfold okB; omega)
  have HS := Lib.hid (shown_ok V w hV)
  have HMd := Lib.hid hMd
  have HV := Lib.hid hV
  obtain ⟨N, hN⟩ : ∃ N, bs.length = N := ⟨_, rfl⟩
  obtain ⟨T1, hT1⟩ : ∃ T : ByteArray, T = ⟨bs.toArray⟩ := ⟨_, rfl⟩
  have z1 : T1.size = N := by rw [hT1, mk_size, hN]
  have CZ := Lib.hid (fun p g => size_at p g bs N hN)
  have CR := Lib.hid (fun p g => read_all p g bs T1 N hT1 hN)
  have zt1 : t.size ≤ 200 := by rw [ht]; simp; omega
  have zt2 : 200 ≤ t.size := by rw [ht]; simp; omega
  have HTx := Lib.hid ht
  clear ht
  clear hV hMd hT1
  rw [hN] at hl h2
  have dN : decide (a < 0) = false := by simpa using h1
  have e1 : IntKind.i64.wrap ((N : Int) - (t.size : Int)) = (N : Int) - (t.size : Int) := IntWalk.i64_in _ (by omega)
  have dP : decide ((N : Int) - (t.size : Int) < a) = true := by simpa using h2
  go_enter Tryd.func5, Tryd.ntmps5
  go_wp2_with fail
  ((with_reducible refine HS.out.mono ?_))
  rintro e w1 ⟨rfl, hb⟩
  have HB1 := Lib.hid hb
  clear hb HS
  go_wp2_with fail
  rw [← HTx.out]
  ((with_reducible refine (HMd.out.call w1 HB1.out).mono ?_))
  rintro e w2 ⟨p, g, rfl, hA, hb, hgg, hpp⟩
  have HA2 := Lib.hid hA
  have HB2 := Lib.hid (bstep HB1.out hb)
  clear hA hb
  have HC := Lib.hid (CZ.out p g w2 HA2.out)
  go_wp2_with fail
  ((with_reducible refine HC.out.mono ?_))
  rintro e w' ⟨rfl, rfl⟩
  clear HC
  have hC := CR.out p g w2 HA2.out
  have HC := Lib.hid hC
  clear hC
  go_wp2_with fail
  ((with_reducible refine HC.out.mono ?_))
  rintro e w3 ⟨rfl, hb⟩
  have HB3 := Lib.hid (bstep HB2.out hb)
  have HA3 := Lib.hid (HA2.out.below hb)
  clear hb HC
  have hC := write_bad V p g bs a t w3 (HV.out.below HB3.out) HA3.out ha HN.out
  have HC := Lib.hid hC
  clear hC
  go_wp2_with fail
  ((with_reducible refine HC.out.mono ?_))
  rintro e w4 ⟨rfl, hb⟩
  have HB4 := Lib.hid (bstep HB3.out hb)
  have HA4 := Lib.hid (HA3.out.below hb)
  clear hb HC
  have HC := Lib.hid (CZ.out p g w4 HA4.out)
  go_wp2_with fail
  ((with_reducible refine HC.out.mono ?_))
  rintro e w' ⟨rfl, rfl⟩
  clear HC
  have hC := CR.out p g w4 HA4.out
  have HC := Lib.hid hC
  clear hC
  go_wp2_with fail
  ((with_reducible refine HC.out.mono ?_))
  rintro e w5 ⟨rfl, hb⟩
  have HB5 := Lib.hid (bstep HB4.out hb)
  have HA5 := Lib.hid (HA4.out.below hb)
  clear hb HC
  have HC := Lib.hid (CZ.out p g w5 HA5.out)
  go_wp2_with fail
  ((with_reducible refine HC.out.mono ?_))
  rintro e w' ⟨rfl, rfl⟩
  clear HC
  have HC := Lib.hid (CZ.out p g w5 HA5.out)
  go_wp2_with fail
  ((with_reducible refine HC.out.mono ?_))
  rintro e w' ⟨rfl, rfl⟩
  clear HC
  have HC := Lib.hid (CZ.out p g w5 HA5.out)
  go_wp2_with fail
  ((with_reducible refine HC.out.mono ?_))
  rintro e w' ⟨rfl, rfl⟩
  clear HC
  go_wp2
  go_ret
  exact ⟨rfl, HB5.out⟩
set_option maxRecDepth 100000 in
set_option maxHeartbeats 1000000 in
theorem lawArenaBack_ok1 (V : VR) (b : Nat) (q : Option Addr) (n cap : Nat) (bs : List UInt8) (i : Nat) (s : ByteArray) (t : ByteArray) (w : World) (hV : RV w V) (hMd : MadeAt w b q n cap bs) (h1 : i + t.size ≤ bs.length) (hl : bs.length ≤ 131072) (hs : 200 < s.size) (hm : s.size ≤ 9223372036854775807) (ht : t = s.extract 0 200) :
    Calls Tryd.prog 5 #[.int .i64 (b : Int), .slice q n cap, .int .i64 (i : Int), .string s] w fun e w' => e = .returned (.bool true) ∧ Below w.heap.size w w' := by
  have HS := Lib.hid (shown_ok V w hV)
  have HMd := Lib.hid hMd
  have HV := Lib.hid hV
  obtain ⟨N, hN⟩ : ∃ N, bs.length = N := ⟨_, rfl⟩
  obtain ⟨T1, hT1⟩ : ∃ T : ByteArray, T = ⟨bs.toArray⟩ := ⟨_, rfl⟩
  have z1 : T1.size = N := by rw [hT1, mk_size, hN]
  have CZ := Lib.hid (fun p g => size_at p g bs N hN)
  have CR := Lib.hid (fun p g => read_all p g bs T1 N hT1 hN)
  have zt1 : t.size ≤ 200 := by rw [ht]; simp; omega
  have zt2 : 200 ≤ t.size := by rw [ht]; simp; omega
  have HTx := Lib.hid ht
  clear ht
  have hN2 : (wrL bs i t.data.toList).length = N := by rw [wrL_len _ _ _ (by simpa using h1), hN]
  obtain ⟨T2, hT2⟩ : ∃ T : ByteArray, T = ⟨(wrL bs i t.data.toList).toArray⟩ := ⟨_, rfl⟩
  have z2 : T2.size = N := by rw [hT2, mk_size, hN2]
  have CZ2 := Lib.hid (fun p g => size_at p g (wrL bs i t.data.toList) N hN2)
  have CR2 := Lib.hid (fun p g => read_all p g (wrL bs i t.data.toList) T2 N hT2 hN2)
  have CW := Lib.hid (fun p g W hW => write_ok p g bs i t W hW h1)
  have CRt := Lib.hid (fun p g W hW => read_mid p g bs i t W hW h1)
  have e1 : IntKind.i64.wrap ((N : Int) - (t.size : Int)) = (N : Int) - (t.size : Int) := IntWalk.i64_in _ (by omega)
  have e2 : IntKind.i64.wrap ((i : Int) + (t.size : Int)) = (i : Int) + (t.size : Int) := IntWalk.i64_in _ (by omega)
  have hj : T2 = T1.extract 0 i ++ t ++ T1.extract (i + t.size) N := by rw [← z1, hT1, hT2]; exact wrL_join bs i t
  have HJ := Lib.hid hj
  rw [hN] at hl h1
  have dP : decide ((N : Int) - (t.size : Int) < (i : Int)) = false := by simp; omega
  clear hV hMd hT1 hT2 hj
  go_enter Tryd.func5, Tryd.ntmps5
  go_wp2_with fail
  ((with_reducible refine HS.out.mono ?_))
  rintro e w1 ⟨rfl, hb⟩
  have HB1 := Lib.hid hb
  clear hb HS
  go_wp2_with fail
  rw [← HTx.out]
  ((with_reducible refine (HMd.out.call w1 HB1.out).mono ?_))
  rintro e w2 ⟨p, g, rfl, hA, hb, hgg, hpp⟩
  have HA2 := Lib.hid hA
  have HB2 := Lib.hid (bstep HB1.out hb)
  clear hA hb
  have HC := Lib.hid (CZ.out p g w2 HA2.out)
  go_wp2_with fail
  ((with_reducible refine HC.out.mono ?_))
  rintro e w' ⟨rfl, rfl⟩
  clear HC
  have hC := CR.out p g w2 HA2.out
  have HC := Lib.hid hC
  clear hC
  go_wp2_with fail
  ((with_reducible refine HC.out.mono ?_))
  rintro e w3 ⟨rfl, hb⟩
  have HB3 := Lib.hid (bstep HB2.out hb)
  have HA3 := Lib.hid (HA2.out.below hb)
  clear hb HC
  have hC := CW.out p g w3 HA3.out
  have HC := Lib.hid hC
  clear hC
  go_wp2_with fail
  ((with_reducible refine HC.out.mono ?_))
  rintro e w4 ⟨rfl, hA, hU⟩
  have HB4 := Lib.hid (Upd.below HB3.out hU HB3.out.size (Nat.le_trans HB1.out.size hgg))
  have HA4 := Lib.hid hA
  clear hA hU HC
  have HC := Lib.hid (CZ2.out p g w4 HA4.out)
  go_wp2_with fail
  ((with_reducible refine HC.out.mono ?_))
  rintro e w' ⟨rfl, rfl⟩
  clear HC
  have hC := CR2.out p g w4 HA4.out
  have HC := Lib.hid hC
  clear hC
  go_wp2_with fail
  ((with_reducible refine HC.out.mono ?_))
  rintro e w5 ⟨rfl, hb⟩
  have HB5 := Lib.hid (bstep HB4.out hb)
  have HA5 := Lib.hid (HA4.out.below hb)
  clear hb HC
  have HC := Lib.hid (CZ2.out p g w5 HA5.out)
  go_wp2_with fail
  ((with_reducible refine HC.out.mono ?_))
  rintro e w' ⟨rfl, rfl⟩
  clear HC
  have HC := Lib.hid (CZ2.out p g w5 HA5.out)
  go_wp2_with fail
  ((with_reducible refine HC.out.mono ?_))
  rintro e w' ⟨rfl, rfl⟩
  clear HC
  have HC := Lib.hid (CZ2.out p g w5 HA5.out)
  go_wp2_with fail
  ((with_reducible refine HC.out.mono ?_))
  rintro e w' ⟨rfl, rfl⟩
  clear HC
  have hC := CRt.out p g w5 HA5.out
  have HC := Lib.hid hC
  clear hC
  go_wp2_with fail
  ((with_reducible refine HC.out.mono ?_))
  rintro e w6 ⟨rfl, hb⟩
  have HB6 := Lib.hid (bstep HB5.out hb)
  have HA6 := Lib.hid (HA5.out.below hb)
  clear hb HC
  have e3 : (0 : Int) ≤ (i : Int) + (t.size : Int) := by omega
  have e4 : ((i : Int) + (t.size : Int)).toNat = i + t.size := by omega
  have e5 : (i : Int) + (t.size : Int) ≤ (N : Int) := by omega
  have e6 : (i : Int) ≤ (N : Int) := by omega
  have e7 : i ≤ N := by omega
  go_wp2
  go_quiet (fail)
  go_wp2
  go_ret
  refine ⟨?_, Ad.below_drewN HB6.out _⟩
  show Ending.returned (.bool (T2.toList == (T1.extract 0 i ++ t ++ T1.extract (i + t.size) N).toList)) = _
  rw [← HJ.out]
  simp

theorem lawArenaBack (V : VR) (b : Int) (q : Option Addr) (n cap : Nat) (a : Int) (s : ByteArray) (w : World) (hV : RV w V) (hb : InI b) (hl : n ≤ cap) (hm : cap ≤ maxLen) (hI : ∃ xs, OL w q xs ∧ xs.length = n) (ha : InI a) (hs : s.size ≤ maxLen) :
    Calls Tryd.prog 5 #[.int .i64 b, .slice q n cap, .int .i64 a, .string s] w fun e w' => e = .returned (.bool true) ∧ Below w.heap.size w w' := by
  have hsm : s.size ≤ 9223372036854775807 := by unfold maxLen at hs; omega
  by_cases h : b < 1 ∨ 32 < b
  · by_cases h1 : s.size ≤ 200
    · exact lawArenaBack_bad0 V b q n cap a s w hV hb h h1
    · exact lawArenaBack_bad1 V b q n cap a s w hV hb h (by omega) hsm
  · obtain ⟨b, rfl⟩ : ∃ c : Nat, b = c := ⟨b.toNat, by omega⟩
    obtain ⟨bs, hbl, hMd⟩ := made_at V b q n cap w hV (by omega) (by omega) hI hl hm
    by_cases h1 : s.size ≤ 200
    · by_cases h2 : a < 0
      · exact lawArenaBack_non0 V b q n cap bs a s w hV hMd ha h2 (by omega) h1
      · by_cases h3 : (bs.length : Int) - (s.size : Int) < a
        · exact lawArenaBack_nop0 V b q n cap bs a s w hV hMd ha (by omega) h3 (by omega) h1
        · obtain ⟨i, rfl⟩ : ∃ c : Nat, a = c := ⟨a.toNat, by omega⟩
          exact lawArenaBack_ok0 V b q n cap bs i s w hV hMd (by omega) (by omega) h1
    · by_cases h2 : a < 0
      · exact lawArenaBack_non1 V b q n cap bs a s _ w hV hMd ha h2 (by omega) (by omega) hsm rfl
      · by_cases h3 : (bs.length : Int) - ((s.extract 0 200).size : Int) < a
        · exact lawArenaBack_nop1 V b q n cap bs a s _ w hV hMd ha (by omega) h3 (by omega) (by omega) hsm rfl
        · obtain ⟨i, rfl⟩ : ∃ c : Nat, a = c := ⟨a.toNat, by omega⟩
          exact lawArenaBack_ok1 V b q n cap bs i s _ w hV hMd (by omega) (by omega) (by omega) hsm rfl
end Go.Proofs.YtchaojdjgbeepaaDoor
