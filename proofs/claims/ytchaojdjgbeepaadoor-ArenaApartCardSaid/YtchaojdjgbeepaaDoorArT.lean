/-
  selionlaw03.ArenaApart, for every input.
-/
import Derived.Test.YtchaojdjgbeepaaDoorArY
namespace Go.Proofs.YtchaojdjgbeepaaDoor
open Go.RowKit Go.Lib Go.Shelf
attribute [local go_sem] Oper.semAt_some

theorem read_allT (p g : Nat) (bs : List UInt8) (T : ByteArray) (N : Nat) (hT : T = ⟨bs.toArray⟩) (hN : bs.length = N) (W : World) (hA : Ar W p g bs) :
    Calls Tryd.prog 21 #[.pointer (some ⟨p, 0, none⟩), .int .i64 0, .int .i64 (N : Int)] W fun e w' => e = .returned (.tuple #[.string T, .int .i64 0]) ∧ Below W.heap.size W w' := by
  have h5 := read_ok p g bs 0 bs.length W hA (by omega)
  rw [List.drop_zero, List.take_length, ← hT, hN] at h5
  exact h5
theorem size_atT (p g : Nat) (bs : List UInt8) (N : Nat) (hN : bs.length = N) (W : World) (hA : Ar W p g bs) :
    Calls Tryd.prog 14 #[.pointer (some ⟨p, 0, none⟩)] W fun e w' => e = .returned (.int .i64 (N : Int)) ∧ W = w' := by
  subst hN
  exact size_ok p g bs W hA
/-- What a Write leaves, and what it tells. -/
def wrO (bs : List UInt8) (a : Int) (s : ByteArray) : List UInt8 := if a + s.size ≤ bs.length then wrL bs a.toNat s.data.toList else bs
def wrE (n : Nat) (a : Int) (s : ByteArray) : Int := if a + s.size ≤ n then 0 else 10
theorem wrO_len (bs : List UInt8) (a : Int) (h : 0 ≤ a) (s : ByteArray) : (wrO bs a s).length = bs.length := by
  unfold wrO
  split
  · rw [wrL_len _ _ _ (by rw [show s.data.toList.length = s.size from rfl]; omega)]
  · rfl
theorem write_o (V : VR) (p g : Nat) (bs : List UInt8) (N : Nat) (hN : bs.length = N) (a : Int) (s : ByteArray) (w : World) (hV : RV w V) (hA : Ar w p g bs) (h : 0 ≤ a) (ha : InI a) :
    Calls Tryd.prog 24 #[.pointer (some ⟨p, 0, none⟩), .int .i64 a, .string s] w fun e w' => e = .returned (.int .i64 (wrE N a s)) ∧ Ar w' p g (wrO bs a s) ∧ Upd g w w' := by
  subst hN
  unfold wrE wrO
  by_cases h1 : a + s.size ≤ bs.length
  · rw [if_pos h1, if_pos h1]
    obtain ⟨i, rfl⟩ : ∃ i : Nat, a = i := ⟨a.toNat, by omega⟩
    exact write_ok p g bs i s w hA (by omega)
  · rw [if_neg h1, if_neg h1]
    exact mt hA (write_bad V p g bs a s w hV hA ha (by unfold okB; omega))
theorem wrL_comm (bs : List UInt8) (i j : Nat) (l m : List UInt8) (h1 : i + l.length ≤ bs.length) (h2 : j + m.length ≤ bs.length) (h : i + l.length ≤ j ∨ j + m.length ≤ i) : wrL (wrL bs i l) j m = wrL (wrL bs j m) i l := by
  apply List.ext_getElem?
  intro x
  rw [wrL_get _ _ _ (by rw [wrL_len _ _ _ h1]; exact h2), wrL_get _ _ _ h1, wrL_get _ _ _ (by rw [wrL_len _ _ _ h2]; exact h1), wrL_get _ _ _ h2]
  by_cases c1 : i ≤ x ∧ x < i + l.length
  · by_cases c2 : j ≤ x ∧ x < j + m.length
    · omega
    · rw [if_neg c2, if_pos c1, if_pos c1]
  · by_cases c2 : j ≤ x ∧ x < j + m.length
    · rw [if_pos c2, if_neg c1, if_pos c2]
    · rw [if_neg c2, if_neg c1, if_neg c1, if_neg c2]
theorem wrO_comm (bs : List UInt8) (a c : Int) (s t : ByteArray) (ha : 0 ≤ a) (hc : 0 ≤ c) (h : a + s.size ≤ c ∨ c + t.size ≤ a) : wrO (wrO bs a s) c t = wrO (wrO bs c t) a s := by
  have e1 : wrO (wrO bs a s) c t = if c + t.size ≤ bs.length then wrL (wrO bs a s) c.toNat t.data.toList else wrO bs a s := by rw [wrO, wrO_len bs a ha]
  have e2 : wrO (wrO bs c t) a s = if a + s.size ≤ bs.length then wrL (wrO bs c t) a.toNat s.data.toList else wrO bs c t := by rw [wrO, wrO_len bs c hc]
  rw [e1, e2]
  have z1 : s.data.toList.length = s.size := rfl
  have z2 : t.data.toList.length = t.size := rfl
  by_cases h1 : a + s.size ≤ bs.length
  · by_cases h2 : c + t.size ≤ bs.length
    · rw [if_pos h1, if_pos h2, wrO, if_pos h1, wrO, if_pos h2]
      exact wrL_comm _ _ _ _ _ (by omega) (by omega) (by omega)
    · rw [if_neg h2, if_pos h1, wrO, if_pos h1, wrO, if_neg h2]
  · by_cases h2 : c + t.size ≤ bs.length
    · rw [if_pos h2, if_neg h1, wrO, if_neg h1, wrO, if_pos h2]
    · rw [if_neg h2, if_neg h1, wrO, if_neg h1, wrO, if_neg h2]
set_option maxRecDepth 100000 in
set_option maxHeartbeats 1000000 in
theorem lawArenaApart_bad00 (V : VR) (b : Int) (q : Option Addr) (n cap : Nat) (a c : Int) (s t : ByteArray) (w : World) (hV : RV w V) (hb : InI b) (h : b < 1 ∨ 32 < b) (hs : s.size ≤ 100) (ht : t.size ≤ 100) (_hsm : s.size ≤ 9223372036854775807) (_htm : t.size ≤ 9223372036854775807) :
    Calls Tryd.prog 8 #[.int .i64 b, .slice q n cap, .int .i64 a, .string s, .int .i64 c, .string t] w fun e w' => e = .returned (.bool true) ∧ Below w.heap.size w w' := by
  have HS := Lib.hid (shown_ok V w hV)
  have HMd := Lib.hid (fun W (hW : Below w.heap.size w W) => made_bad V b (.slice q n cap) W (hV.below hW) hb h)
  clear hV hb h
  go_enter Tryd.func8, Tryd.ntmps8
  go_wp2_with fail
  ((with_reducible refine HS.out.mono ?_))
  rintro e w1 ⟨rfl, hb⟩
  have HB1 := Lib.hid hb
  clear hb HS
  go_wp2_with fail
  ((with_reducible refine (HMd.out w1 HB1.out).mono ?_))
  rintro e w2 ⟨rfl, hb⟩
  have HB2 := Lib.hid (bstep HB1.out hb)
  clear hb
  go_wp2_with fail
  ((with_reducible refine (HMd.out w2 HB2.out).mono ?_))
  rintro e w3 ⟨rfl, hb⟩
  have HB3 := Lib.hid (bstep HB2.out hb)
  clear hb
  go_wp2
  go_ret
  exact ⟨rfl, HB3.out⟩
set_option maxRecDepth 100000 in
set_option maxHeartbeats 1000000 in
theorem lawArenaApart_out00 (V : VR) (b : Nat) (q : Option Addr) (n cap : Nat) (bs : List UInt8) (a c : Int) (s t : ByteArray) (w : World) (hV : RV w V) (hMd : MadeAt w b q n cap bs) (ha : InI a) (hc : InI c) (hl : bs.length ≤ 131072) (h : a < 0 ∨ c < 0 ∨ bs.length < a ∨ bs.length < c ∨ (c < a + s.size ∧ a < c + t.size)) (hs : s.size ≤ 100) (ht : t.size ≤ 100) (_hsm : s.size ≤ 9223372036854775807) (_htm : t.size ≤ 9223372036854775807) :
    Calls Tryd.prog 8 #[.int .i64 (b : Int), .slice q n cap, .int .i64 a, .string s, .int .i64 c, .string t] w fun e w' => e = .returned (.bool true) ∧ Below w.heap.size w w' := by
  have HS := Lib.hid (shown_ok V w hV)
  have HMd := Lib.hid hMd
  have HV := Lib.hid hV
  obtain ⟨N, hN⟩ : ∃ N, bs.length = N := ⟨_, rfl⟩
  have CZ := Lib.hid (fun p g => size_atT p g bs N hN)
  rw [hN] at hl h
  clear hV hMd hN
  obtain ⟨ha1, ha2⟩ := ha
  obtain ⟨hc1, hc2⟩ := hc
  go_enter Tryd.func8, Tryd.ntmps8
  go_wp2_with fail
  ((with_reducible refine HS.out.mono ?_))
  rintro e w1 ⟨rfl, hb⟩
  have HB1 := Lib.hid hb
  clear hb HS
  go_wp2_with fail
  ((with_reducible refine (HMd.out.call w1 HB1.out).mono ?_))
  rintro e w2 ⟨p, g, rfl, hA, hb, hgg, hpp⟩
  have Hp2 := Lib.hid hA
  have HB2 := Lib.hid (bstep HB1.out hb)
  clear hA hb
  go_wp2_with fail
  ((with_reducible refine (HMd.out.call w2 HB2.out).mono ?_))
  rintro e w3 ⟨p2, g2, rfl, hA, hb, hgg2, hpp2⟩
  have Hp23 := Lib.hid hA
  have Hp3' := Lib.hid (Hp2.out.below hb)
  have HB3 := Lib.hid (bstep HB2.out hb)
  clear hA hb
  have HCZ := Lib.hid (CZ.out p g w3 Hp3'.out)
  have r1 : a < 0 ∨ 0 ≤ a := by omega
  have r2 : c < 0 ∨ 0 ≤ c := by omega
  rcases r1 with r1 | r1
  · go_wp2
    go_ret
    exact ⟨rfl, HB3.out⟩
  rcases r2 with r2 | r2
  · go_wp2
    go_ret
    exact ⟨rfl, HB3.out⟩
  go_wp2_with fail
  ((with_reducible refine HCZ.out.mono ?_))
  rintro e w' ⟨rfl, rfl⟩
  by_cases r3 : (N : Int) < a
  · go_wp2
    go_ret
    exact ⟨rfl, HB3.out⟩
  go_wp2_with fail
  ((with_reducible refine HCZ.out.mono ?_))
  rintro e w' ⟨rfl, rfl⟩
  by_cases r4 : (N : Int) < c
  · go_wp2
    go_ret
    exact ⟨rfl, HB3.out⟩
  obtain ⟨h5, h6⟩ : c < a + s.size ∧ a < c + t.size := by omega
  clear h
  go_wp2
  go_ret
  exact ⟨rfl, HB3.out⟩
set_option maxRecDepth 100000 in
set_option maxHeartbeats 1000000 in
theorem lawArenaApart_in00 (V : VR) (b : Nat) (q : Option Addr) (n cap : Nat) (bs : List UInt8) (a c : Int) (s t : ByteArray) (w : World) (hV : RV w V) (hMd : MadeAt w b q n cap bs) (ha0 : 0 ≤ a) (hc0 : 0 ≤ c) (ha : InI a) (hc : InI c) (hl : bs.length ≤ 131072) (ha' : a ≤ bs.length) (hc' : c ≤ bs.length) (h : a + s.size ≤ c ∨ c + t.size ≤ a) (hs : s.size ≤ 100) (ht : t.size ≤ 100) (_hsm : s.size ≤ 9223372036854775807) (_htm : t.size ≤ 9223372036854775807) :
    Calls Tryd.prog 8 #[.int .i64 (b : Int), .slice q n cap, .int .i64 a, .string s, .int .i64 c, .string t] w fun e w' => e = .returned (.bool true) ∧ Below w.heap.size w w' := by
  have HS := Lib.hid (shown_ok V w hV)
  have HMd := Lib.hid hMd
  have HV := Lib.hid hV
  obtain ⟨N, hN⟩ : ∃ N, bs.length = N := ⟨_, rfl⟩
  have CZ := Lib.hid (fun p g => size_atT p g bs N hN)
  have hcm := wrO_comm bs a c s t ha0 hc0 h
  have l1 := wrO_len bs a ha0 s
  have l2 := wrO_len bs c hc0 t
  have l3 := wrO_len (wrO bs a s) c hc0 t
  rw [l1] at l3
  rw [hN] at l1 l2 l3 hl ha' hc'
  have C1 := Lib.hid (fun p g W hW hA => write_o V p g bs N hN a s W hW hA ha0 ha)
  have C2 := Lib.hid (fun p g W hW hA => write_o V p g _ N l1 c t W hW hA hc0 hc)
  have C3 := Lib.hid (fun p g W hW hA => write_o V p g bs N hN c t W hW hA hc0 hc)
  have C4 := Lib.hid (fun p g W hW hA => write_o V p g _ N l2 a s W hW hA ha0 ha)
  rw [← hcm] at C4
  generalize wrE N a s = e1 at C1 C4
  generalize wrE N c t = e2 at C2 C3
  generalize wrO (wrO bs a s) c t = b3 at C2 C4 l3
  generalize wrO bs a s = b1 at C1 C2
  generalize wrO bs c t = b2 at C3 C4
  obtain ⟨X, hX⟩ : ∃ T : ByteArray, T = ⟨b3.toArray⟩ := ⟨_, rfl⟩
  have zX : X.size = N := by rw [hX, mk_size, l3]
  have CR := Lib.hid (fun p g => read_allT p g b3 X N hX l3)
  have CY := Lib.hid (fun p g => size_atT p g b3 N l3)
  clear hV hMd hN hcm l1 l2 l3 hX
  obtain ⟨ha1, ha2⟩ := ha
  obtain ⟨hc1, hc2⟩ := hc
  go_enter Tryd.func8, Tryd.ntmps8
  go_wp2_with fail
  ((with_reducible refine HS.out.mono ?_))
  rintro e w1 ⟨rfl, hb⟩
  have HB1 := Lib.hid hb
  clear hb HS
  go_wp2_with fail
  ((with_reducible refine (HMd.out.call w1 HB1.out).mono ?_))
  rintro e w2 ⟨p, g, rfl, hA, hb, hgg, hpp⟩
  have Hp2 := Lib.hid hA
  have HB2 := Lib.hid (bstep HB1.out hb)
  clear hA hb
  go_wp2_with fail
  ((with_reducible refine (HMd.out.call w2 HB2.out).mono ?_))
  rintro e w3 ⟨p2, g2, rfl, hA, hb, hgg2, hpp2⟩
  have Hp23 := Lib.hid hA
  have Hp3' := Lib.hid (Hp2.out.below hb)
  have HB3 := Lib.hid (bstep HB2.out hb)
  clear hA hb
  have HCZ := Lib.hid (CZ.out p g w3 Hp3'.out)
  have hgl := Hp2.out.hg.lt
  have hpl := Hp2.out.hp.lt
  have gs1 := HB1.out.size
  have gs2 := HB2.out.size
  go_wp2_with fail
  ((with_reducible refine HCZ.out.mono ?_))
  rintro e w' ⟨rfl, rfl⟩
  go_wp2_with fail
  ((with_reducible refine HCZ.out.mono ?_))
  rintro e w' ⟨rfl, rfl⟩
  clear HCZ
  by_cases h5 : c < a + s.size
  · have h6 : c + t.size ≤ a := by omega
    clear h
    have HC := Lib.hid (C1.out p g w3 (HV.out.below HB3.out) Hp3'.out)
    go_wp2_with fail
    ((with_reducible refine HC.out.mono ?_))
    rintro e w4 ⟨rfl, hA, hU⟩
    have HB4 := Lib.hid (Upd.below HB3.out hU HB3.out.size (by omega))
    have Hp4 := Lib.hid hA
    have Hq4 := Lib.hid (Hp23.out.other hU (by omega) (by omega))
    clear hA hU HC
    have HC := Lib.hid (C2.out p g w4 (HV.out.below HB4.out) Hp4.out)
    go_wp2_with fail
    ((with_reducible refine HC.out.mono ?_))
    rintro e w5 ⟨rfl, hA, hU⟩
    have HB5 := Lib.hid (Upd.below HB4.out hU HB4.out.size (by omega))
    have Hp5 := Lib.hid hA
    have Hq5 := Lib.hid (Hq4.out.other hU (by omega) (by omega))
    clear hA hU HC
    have HC := Lib.hid (C3.out p2 g2 w5 (HV.out.below HB5.out) Hq5.out)
    go_wp2_with fail
    ((with_reducible refine HC.out.mono ?_))
    rintro e w6 ⟨rfl, hA, hU⟩
    have HB6 := Lib.hid (Upd.below HB5.out hU HB5.out.size (by omega))
    have Hp6 := Lib.hid (Hp5.out.other hU (by omega) (by omega))
    have Hq6 := Lib.hid hA
    clear hA hU HC
    have HC := Lib.hid (C4.out p2 g2 w6 (HV.out.below HB6.out) Hq6.out)
    go_wp2_with fail
    ((with_reducible refine HC.out.mono ?_))
    rintro e w7 ⟨rfl, hA, hU⟩
    have HB7 := Lib.hid (Upd.below HB6.out hU HB6.out.size (by omega))
    have HA7 := Lib.hid (Hp6.out.other hU (by omega) (by omega))
    have Hq7 := Lib.hid hA
    clear hA hU HC
    have HC := Lib.hid (CY.out p g w7 HA7.out)
    go_wp2_with fail
    ((with_reducible refine HC.out.mono ?_))
    rintro e w' ⟨rfl, rfl⟩
    clear HC
    have hC := CR.out p g w7 HA7.out
    have HC := Lib.hid hC
    clear hC
    go_wp2_with fail
    ((with_reducible refine HC.out.mono ?_))
    rintro e w8 ⟨rfl, hb⟩
    have HB8 := Lib.hid (bstep HB7.out hb)
    have HA8 := Lib.hid (HA7.out.below hb)
    have Hq8 := Lib.hid (Hq7.out.below hb)
    clear hb HC
    have HC := Lib.hid (CY.out p2 g2 w8 Hq8.out)
    go_wp2_with fail
    ((with_reducible refine HC.out.mono ?_))
    rintro e w' ⟨rfl, rfl⟩
    clear HC
    have hC := CR.out p2 g2 w8 Hq8.out
    have HC := Lib.hid hC
    clear hC
    go_wp2_with fail
    ((with_reducible refine HC.out.mono ?_))
    rintro e w9 ⟨rfl, hb⟩
    have HB9 := Lib.hid (bstep HB8.out hb)
    have HA9 := Lib.hid (HA8.out.below hb)
    clear hb HC
    have HC := Lib.hid (CY.out p g w9 HA9.out)
    go_wp2_with fail
    ((with_reducible refine HC.out.mono ?_))
    rintro e w' ⟨rfl, rfl⟩
    clear HC
    go_wp2
    go_ret
    exact ⟨rfl, HB9.out⟩
  · have h6 : a + s.size ≤ c := by omega
    clear h
    have HC := Lib.hid (C1.out p g w3 (HV.out.below HB3.out) Hp3'.out)
    go_wp2_with fail
    ((with_reducible refine HC.out.mono ?_))
    rintro e w4 ⟨rfl, hA, hU⟩
    have HB4 := Lib.hid (Upd.below HB3.out hU HB3.out.size (by omega))
    have Hp4 := Lib.hid hA
    have Hq4 := Lib.hid (Hp23.out.other hU (by omega) (by omega))
    clear hA hU HC
    have HC := Lib.hid (C2.out p g w4 (HV.out.below HB4.out) Hp4.out)
    go_wp2_with fail
    ((with_reducible refine HC.out.mono ?_))
    rintro e w5 ⟨rfl, hA, hU⟩
    have HB5 := Lib.hid (Upd.below HB4.out hU HB4.out.size (by omega))
    have Hp5 := Lib.hid hA
    have Hq5 := Lib.hid (Hq4.out.other hU (by omega) (by omega))
    clear hA hU HC
    have HC := Lib.hid (C3.out p2 g2 w5 (HV.out.below HB5.out) Hq5.out)
    go_wp2_with fail
    ((with_reducible refine HC.out.mono ?_))
    rintro e w6 ⟨rfl, hA, hU⟩
    have HB6 := Lib.hid (Upd.below HB5.out hU HB5.out.size (by omega))
    have Hp6 := Lib.hid (Hp5.out.other hU (by omega) (by omega))
    have Hq6 := Lib.hid hA
    clear hA hU HC
    have HC := Lib.hid (C4.out p2 g2 w6 (HV.out.below HB6.out) Hq6.out)
    go_wp2_with fail
    ((with_reducible refine HC.out.mono ?_))
    rintro e w7 ⟨rfl, hA, hU⟩
    have HB7 := Lib.hid (Upd.below HB6.out hU HB6.out.size (by omega))
    have HA7 := Lib.hid (Hp6.out.other hU (by omega) (by omega))
    have Hq7 := Lib.hid hA
    clear hA hU HC
    have HC := Lib.hid (CY.out p g w7 HA7.out)
    go_wp2_with fail
    ((with_reducible refine HC.out.mono ?_))
    rintro e w' ⟨rfl, rfl⟩
    clear HC
    have hC := CR.out p g w7 HA7.out
    have HC := Lib.hid hC
    clear hC
    go_wp2_with fail
    ((with_reducible refine HC.out.mono ?_))
    rintro e w8 ⟨rfl, hb⟩
    have HB8 := Lib.hid (bstep HB7.out hb)
    have HA8 := Lib.hid (HA7.out.below hb)
    have Hq8 := Lib.hid (Hq7.out.below hb)
    clear hb HC
    have HC := Lib.hid (CY.out p2 g2 w8 Hq8.out)
    go_wp2_with fail
    ((with_reducible refine HC.out.mono ?_))
    rintro e w' ⟨rfl, rfl⟩
    clear HC
    have hC := CR.out p2 g2 w8 Hq8.out
    have HC := Lib.hid hC
    clear hC
    go_wp2_with fail
    ((with_reducible refine HC.out.mono ?_))
    rintro e w9 ⟨rfl, hb⟩
    have HB9 := Lib.hid (bstep HB8.out hb)
    have HA9 := Lib.hid (HA8.out.below hb)
    clear hb HC
    have HC := Lib.hid (CY.out p g w9 HA9.out)
    go_wp2_with fail
    ((with_reducible refine HC.out.mono ?_))
    rintro e w' ⟨rfl, rfl⟩
    clear HC
    go_wp2
    go_ret
    exact ⟨rfl, HB9.out⟩
set_option maxRecDepth 100000 in
set_option maxHeartbeats 1000000 in
theorem lawArenaApart_bad01 (V : VR) (b : Int) (q : Option Addr) (n cap : Nat) (a c : Int) (s t : ByteArray) (T : ByteArray) (hT : T = t.extract 0 100) (w : World) (hV : RV w V) (hb : InI b) (h : b < 1 ∨ 32 < b) (hs : s.size ≤ 100) (ht : 100 < t.size) (_hsm : s.size ≤ 9223372036854775807) (htm : t.size ≤ 9223372036854775807) :
    Calls Tryd.prog 8 #[.int .i64 b, .slice q n cap, .int .i64 a, .string s, .int .i64 c, .string t] w fun e w' => e = .returned (.bool true) ∧ Below w.heap.size w w' := by
  have HS := Lib.hid (shown_ok V w hV)
  have HMd := Lib.hid (fun W (hW : Below w.heap.size w W) => made_bad V b (.slice q n cap) W (hV.below hW) hb h)
  clear hV hb h
  have zt : T.size = 100 := by rw [hT]; simp; omega
  have HTx := Lib.hid hT
  clear hT
  go_enter Tryd.func8, Tryd.ntmps8
  go_wp2_with fail
  ((with_reducible refine HS.out.mono ?_))
  rintro e w1 ⟨rfl, hb⟩
  have HB1 := Lib.hid hb
  clear hb HS
  go_wp2_with fail
  rw [← HTx.out]
  ((with_reducible refine (HMd.out w1 HB1.out).mono ?_))
  rintro e w2 ⟨rfl, hb⟩
  have HB2 := Lib.hid (bstep HB1.out hb)
  clear hb
  go_wp2_with fail
  ((with_reducible refine (HMd.out w2 HB2.out).mono ?_))
  rintro e w3 ⟨rfl, hb⟩
  have HB3 := Lib.hid (bstep HB2.out hb)
  clear hb
  go_wp2
  go_ret
  exact ⟨rfl, HB3.out⟩
set_option maxRecDepth 100000 in
set_option maxHeartbeats 1000000 in
theorem lawArenaApart_out01 (V : VR) (b : Nat) (q : Option Addr) (n cap : Nat) (bs : List UInt8) (a c : Int) (s t : ByteArray) (T : ByteArray) (hT : T = t.extract 0 100) (w : World) (hV : RV w V) (hMd : MadeAt w b q n cap bs) (ha : InI a) (hc : InI c) (hl : bs.length ≤ 131072) (h : a < 0 ∨ c < 0 ∨ bs.length < a ∨ bs.length < c ∨ (c < a + s.size ∧ a < c + T.size)) (hs : s.size ≤ 100) (ht : 100 < t.size) (_hsm : s.size ≤ 9223372036854775807) (htm : t.size ≤ 9223372036854775807) :
    Calls Tryd.prog 8 #[.int .i64 (b : Int), .slice q n cap, .int .i64 a, .string s, .int .i64 c, .string t] w fun e w' => e = .returned (.bool true) ∧ Below w.heap.size w w' := by
  have HS := Lib.hid (shown_ok V w hV)
  have HMd := Lib.hid hMd
  have HV := Lib.hid hV
  obtain ⟨N, hN⟩ : ∃ N, bs.length = N := ⟨_, rfl⟩
  have CZ := Lib.hid (fun p g => size_atT p g bs N hN)
  have zt : T.size = 100 := by rw [hT]; simp; omega
  have HTx := Lib.hid hT
  clear hT
  rw [hN] at hl h
  clear hV hMd hN
  obtain ⟨ha1, ha2⟩ := ha
  obtain ⟨hc1, hc2⟩ := hc
  go_enter Tryd.func8, Tryd.ntmps8
  go_wp2_with fail
  ((with_reducible refine HS.out.mono ?_))
  rintro e w1 ⟨rfl, hb⟩
  have HB1 := Lib.hid hb
  clear hb HS
  go_wp2_with fail
  rw [← HTx.out]
  ((with_reducible refine (HMd.out.call w1 HB1.out).mono ?_))
  rintro e w2 ⟨p, g, rfl, hA, hb, hgg, hpp⟩
  have Hp2 := Lib.hid hA
  have HB2 := Lib.hid (bstep HB1.out hb)
  clear hA hb
  go_wp2_with fail
  ((with_reducible refine (HMd.out.call w2 HB2.out).mono ?_))
  rintro e w3 ⟨p2, g2, rfl, hA, hb, hgg2, hpp2⟩
  have Hp23 := Lib.hid hA
  have Hp3' := Lib.hid (Hp2.out.below hb)
  have HB3 := Lib.hid (bstep HB2.out hb)
  clear hA hb
  have HCZ := Lib.hid (CZ.out p g w3 Hp3'.out)
  have r1 : a < 0 ∨ 0 ≤ a := by omega
  have r2 : c < 0 ∨ 0 ≤ c := by omega
  rcases r1 with r1 | r1
  · go_wp2
    go_ret
    exact ⟨rfl, HB3.out⟩
  rcases r2 with r2 | r2
  · go_wp2
    go_ret
    exact ⟨rfl, HB3.out⟩
  go_wp2_with fail
  ((with_reducible refine HCZ.out.mono ?_))
  rintro e w' ⟨rfl, rfl⟩
  by_cases r3 : (N : Int) < a
  · go_wp2
    go_ret
    exact ⟨rfl, HB3.out⟩
  go_wp2_with fail
  ((with_reducible refine HCZ.out.mono ?_))
  rintro e w' ⟨rfl, rfl⟩
  by_cases r4 : (N : Int) < c
  · go_wp2
    go_ret
    exact ⟨rfl, HB3.out⟩
  obtain ⟨h5, h6⟩ : c < a + s.size ∧ a < c + T.size := by omega
  clear h
  go_wp2
  go_ret
  exact ⟨rfl, HB3.out⟩
set_option maxRecDepth 100000 in
set_option maxHeartbeats 1000000 in
theorem lawArenaApart_in01 (V : VR) (b : Nat) (q : Option Addr) (n cap : Nat) (bs : List UInt8) (a c : Int) (s t : ByteArray) (T : ByteArray) (hT : T = t.extract 0 100) (w : World) (hV : RV w V) (hMd : MadeAt w b q n cap bs) (ha0 : 0 ≤ a) (hc0 : 0 ≤ c) (ha : InI a) (hc : InI c) (hl : bs.length ≤ 131072) (ha' : a ≤ bs.length) (hc' : c ≤ bs.length) (h : a + s.size ≤ c ∨ c + T.size ≤ a) (hs : s.size ≤ 100) (ht : 100 < t.size) (_hsm : s.size ≤ 9223372036854775807) (htm : t.size ≤ 9223372036854775807) :
    Calls Tryd.prog 8 #[.int .i64 (b : Int), .slice q n cap, .int .i64 a, .string s, .int .i64 c, .string t] w fun e w' => e = .returned (.bool true) ∧ Below w.heap.size w w' := by
  have HS := Lib.hid (shown_ok V w hV)
  have HMd := Lib.hid hMd
  have HV := Lib.hid hV
  obtain ⟨N, hN⟩ : ∃ N, bs.length = N := ⟨_, rfl⟩
  have CZ := Lib.hid (fun p g => size_atT p g bs N hN)
  have hcm := wrO_comm bs a c s T ha0 hc0 h
  have l1 := wrO_len bs a ha0 s
  have l2 := wrO_len bs c hc0 T
  have l3 := wrO_len (wrO bs a s) c hc0 T
  rw [l1] at l3
  rw [hN] at l1 l2 l3 hl ha' hc'
  have C1 := Lib.hid (fun p g W hW hA => write_o V p g bs N hN a s W hW hA ha0 ha)
  have C2 := Lib.hid (fun p g W hW hA => write_o V p g _ N l1 c T W hW hA hc0 hc)
  have C3 := Lib.hid (fun p g W hW hA => write_o V p g bs N hN c T W hW hA hc0 hc)
  have C4 := Lib.hid (fun p g W hW hA => write_o V p g _ N l2 a s W hW hA ha0 ha)
  rw [← hcm] at C4
  generalize wrE N a s = e1 at C1 C4
  generalize wrE N c T = e2 at C2 C3
  generalize wrO (wrO bs a s) c T = b3 at C2 C4 l3
  generalize wrO bs a s = b1 at C1 C2
  generalize wrO bs c T = b2 at C3 C4
  obtain ⟨X, hX⟩ : ∃ T : ByteArray, T = ⟨b3.toArray⟩ := ⟨_, rfl⟩
  have zX : X.size = N := by rw [hX, mk_size, l3]
  have CR := Lib.hid (fun p g => read_allT p g b3 X N hX l3)
  have CY := Lib.hid (fun p g => size_atT p g b3 N l3)
  have zt : T.size = 100 := by rw [hT]; simp; omega
  have HTx := Lib.hid hT
  clear hT
  clear hV hMd hN hcm l1 l2 l3 hX
  obtain ⟨ha1, ha2⟩ := ha
  obtain ⟨hc1, hc2⟩ := hc
  go_enter Tryd.func8, Tryd.ntmps8
  go_wp2_with fail
  ((with_reducible refine HS.out.mono ?_))
  rintro e w1 ⟨rfl, hb⟩
  have HB1 := Lib.hid hb
  clear hb HS
  go_wp2_with fail
  rw [← HTx.out]
  ((with_reducible refine (HMd.out.call w1 HB1.out).mono ?_))
  rintro e w2 ⟨p, g, rfl, hA, hb, hgg, hpp⟩
  have Hp2 := Lib.hid hA
  have HB2 := Lib.hid (bstep HB1.out hb)
  clear hA hb
  go_wp2_with fail
  ((with_reducible refine (HMd.out.call w2 HB2.out).mono ?_))
  rintro e w3 ⟨p2, g2, rfl, hA, hb, hgg2, hpp2⟩
  have Hp23 := Lib.hid hA
  have Hp3' := Lib.hid (Hp2.out.below hb)
  have HB3 := Lib.hid (bstep HB2.out hb)
  clear hA hb
  have HCZ := Lib.hid (CZ.out p g w3 Hp3'.out)
  have hgl := Hp2.out.hg.lt
  have hpl := Hp2.out.hp.lt
  have gs1 := HB1.out.size
  have gs2 := HB2.out.size
  go_wp2_with fail
  ((with_reducible refine HCZ.out.mono ?_))
  rintro e w' ⟨rfl, rfl⟩
  go_wp2_with fail
  ((with_reducible refine HCZ.out.mono ?_))
  rintro e w' ⟨rfl, rfl⟩
  clear HCZ
  by_cases h5 : c < a + s.size
  · have h6 : c + T.size ≤ a := by omega
    clear h
    have HC := Lib.hid (C1.out p g w3 (HV.out.below HB3.out) Hp3'.out)
    go_wp2_with fail
    ((with_reducible refine HC.out.mono ?_))
    rintro e w4 ⟨rfl, hA, hU⟩
    have HB4 := Lib.hid (Upd.below HB3.out hU HB3.out.size (by omega))
    have Hp4 := Lib.hid hA
    have Hq4 := Lib.hid (Hp23.out.other hU (by omega) (by omega))
    clear hA hU HC
    have HC := Lib.hid (C2.out p g w4 (HV.out.below HB4.out) Hp4.out)
    go_wp2_with fail
    ((with_reducible refine HC.out.mono ?_))
    rintro e w5 ⟨rfl, hA, hU⟩
    have HB5 := Lib.hid (Upd.below HB4.out hU HB4.out.size (by omega))
    have Hp5 := Lib.hid hA
    have Hq5 := Lib.hid (Hq4.out.other hU (by omega) (by omega))
    clear hA hU HC
    have HC := Lib.hid (C3.out p2 g2 w5 (HV.out.below HB5.out) Hq5.out)
    go_wp2_with fail
    ((with_reducible refine HC.out.mono ?_))
    rintro e w6 ⟨rfl, hA, hU⟩
    have HB6 := Lib.hid (Upd.below HB5.out hU HB5.out.size (by omega))
    have Hp6 := Lib.hid (Hp5.out.other hU (by omega) (by omega))
    have Hq6 := Lib.hid hA
    clear hA hU HC
    have HC := Lib.hid (C4.out p2 g2 w6 (HV.out.below HB6.out) Hq6.out)
    go_wp2_with fail
    ((with_reducible refine HC.out.mono ?_))
    rintro e w7 ⟨rfl, hA, hU⟩
    have HB7 := Lib.hid (Upd.below HB6.out hU HB6.out.size (by omega))
    have HA7 := Lib.hid (Hp6.out.other hU (by omega) (by omega))
    have Hq7 := Lib.hid hA
    clear hA hU HC
    have HC := Lib.hid (CY.out p g w7 HA7.out)
    go_wp2_with fail
    ((with_reducible refine HC.out.mono ?_))
    rintro e w' ⟨rfl, rfl⟩
    clear HC
    have hC := CR.out p g w7 HA7.out
    have HC := Lib.hid hC
    clear hC
    go_wp2_with fail
    ((with_reducible refine HC.out.mono ?_))
    rintro e w8 ⟨rfl, hb⟩
    have HB8 := Lib.hid (bstep HB7.out hb)
    have HA8 := Lib.hid (HA7.out.below hb)
    have Hq8 := Lib.hid (Hq7.out.below hb)
    clear hb HC
    have HC := Lib.hid (CY.out p2 g2 w8 Hq8.out)
    go_wp2_with fail
    ((with_reducible refine HC.out.mono ?_))
    rintro e w' ⟨rfl, rfl⟩
    clear HC
    have hC := CR.out p2 g2 w8 Hq8.out
    have HC := Lib.hid hC
    clear hC
    go_wp2_with fail
    ((with_reducible refine HC.out.mono ?_))
    rintro e w9 ⟨rfl, hb⟩
    have HB9 := Lib.hid (bstep HB8.out hb)
    have HA9 := Lib.hid (HA8.out.below hb)
    clear hb HC
    have HC := Lib.hid (CY.out p g w9 HA9.out)
    go_wp2_with fail
    ((with_reducible refine HC.out.mono ?_))
    rintro e w' ⟨rfl, rfl⟩
    clear HC
    go_wp2
    go_ret
    exact ⟨rfl, HB9.out⟩
  · have h6 : a + s.size ≤ c := by omega
    clear h
    have HC := Lib.hid (C1.out p g w3 (HV.out.below HB3.out) Hp3'.out)
    go_wp2_with fail
    ((with_reducible refine HC.out.mono ?_))
    rintro e w4 ⟨rfl, hA, hU⟩
    have HB4 := Lib.hid (Upd.below HB3.out hU HB3.out.size (by omega))
    have Hp4 := Lib.hid hA
    have Hq4 := Lib.hid (Hp23.out.other hU (by omega) (by omega))
    clear hA hU HC
    have HC := Lib.hid (C2.out p g w4 (HV.out.below HB4.out) Hp4.out)
    go_wp2_with fail
    ((with_reducible refine HC.out.mono ?_))
    rintro e w5 ⟨rfl, hA, hU⟩
    have HB5 := Lib.hid (Upd.below HB4.out hU HB4.out.size (by omega))
    have Hp5 := Lib.hid hA
    have Hq5 := Lib.hid (Hq4.out.other hU (by omega) (by omega))
    clear hA hU HC
    have HC := Lib.hid (C3.out p2 g2 w5 (HV.out.below HB5.out) Hq5.out)
    go_wp2_with fail
    ((with_reducible refine HC.out.mono ?_))
    rintro e w6 ⟨rfl, hA, hU⟩
    have HB6 := Lib.hid (Upd.below HB5.out hU HB5.out.size (by omega))
    have Hp6 := Lib.hid (Hp5.out.other hU (by omega) (by omega))
    have Hq6 := Lib.hid hA
    clear hA hU HC
    have HC := Lib.hid (C4.out p2 g2 w6 (HV.out.below HB6.out) Hq6.out)
    go_wp2_with fail
    ((with_reducible refine HC.out.mono ?_))
    rintro e w7 ⟨rfl, hA, hU⟩
    have HB7 := Lib.hid (Upd.below HB6.out hU HB6.out.size (by omega))
    have HA7 := Lib.hid (Hp6.out.other hU (by omega) (by omega))
    have Hq7 := Lib.hid hA
    clear hA hU HC
    have HC := Lib.hid (CY.out p g w7 HA7.out)
    go_wp2_with fail
    ((with_reducible refine HC.out.mono ?_))
    rintro e w' ⟨rfl, rfl⟩
    clear HC
    have hC := CR.out p g w7 HA7.out
    have HC := Lib.hid hC
    clear hC
    go_wp2_with fail
    ((with_reducible refine HC.out.mono ?_))
    rintro e w8 ⟨rfl, hb⟩
    have HB8 := Lib.hid (bstep HB7.out hb)
    have HA8 := Lib.hid (HA7.out.below hb)
    have Hq8 := Lib.hid (Hq7.out.below hb)
    clear hb HC
    have HC := Lib.hid (CY.out p2 g2 w8 Hq8.out)
    go_wp2_with fail
    ((with_reducible refine HC.out.mono ?_))
    rintro e w' ⟨rfl, rfl⟩
    clear HC
    have hC := CR.out p2 g2 w8 Hq8.out
    have HC := Lib.hid hC
    clear hC
    go_wp2_with fail
    ((with_reducible refine HC.out.mono ?_))
    rintro e w9 ⟨rfl, hb⟩
    have HB9 := Lib.hid (bstep HB8.out hb)
    have HA9 := Lib.hid (HA8.out.below hb)
    clear hb HC
    have HC := Lib.hid (CY.out p g w9 HA9.out)
    go_wp2_with fail
    ((with_reducible refine HC.out.mono ?_))
    rintro e w' ⟨rfl, rfl⟩
    clear HC
    go_wp2
    go_ret
    exact ⟨rfl, HB9.out⟩
set_option maxRecDepth 100000 in
set_option maxHeartbeats 1000000 in
theorem lawArenaApart_bad10 (V : VR) (b : Int) (q : Option Addr) (n cap : Nat) (a c : Int) (s t : ByteArray) (S : ByteArray) (hS : S = s.extract 0 100) (w : World) (hV : RV w V) (hb : InI b) (h : b < 1 ∨ 32 < b) (hs : 100 < s.size) (ht : t.size ≤ 100) (hsm : s.size ≤ 9223372036854775807) (_htm : t.size ≤ 9223372036854775807) :
    Calls Tryd.prog 8 #[.int .i64 b, .slice q n cap, .int .i64 a, .string s, .int .i64 c, .string t] w fun e w' => e = .returned (.bool true) ∧ Below w.heap.size w w' := by
  have HS := Lib.hid (shown_ok V w hV)
  have HMd := Lib.hid (fun W (hW : Below w.heap.size w W) => made_bad V b (.slice q n cap) W (hV.below hW) hb h)
  clear hV hb h
  have zs : S.size = 100 := by rw [hS]; simp; omega
  have HSx := Lib.hid hS
  clear hS
  go_enter Tryd.func8, Tryd.ntmps8
  go_wp2_with fail
  ((with_reducible refine HS.out.mono ?_))
  rintro e w1 ⟨rfl, hb⟩
  have HB1 := Lib.hid hb
  clear hb HS
  go_wp2_with fail
  rw [← HSx.out]
  ((with_reducible refine (HMd.out w1 HB1.out).mono ?_))
  rintro e w2 ⟨rfl, hb⟩
  have HB2 := Lib.hid (bstep HB1.out hb)
  clear hb
  go_wp2_with fail
  ((with_reducible refine (HMd.out w2 HB2.out).mono ?_))
  rintro e w3 ⟨rfl, hb⟩
  have HB3 := Lib.hid (bstep HB2.out hb)
  clear hb
  go_wp2
  go_ret
  exact ⟨rfl, HB3.out⟩
set_option maxRecDepth 100000 in
set_option maxHeartbeats 1000000 in
theorem lawArenaApart_out10 (V : VR) (b : Nat) (q : Option Addr) (n cap : Nat) (bs : List UInt8) (a c : Int) (s t : ByteArray) (S : ByteArray) (hS : S = s.extract 0 100) (w : World) (hV : RV w V) (hMd : MadeAt w b q n cap bs) (ha : InI a) (hc : InI c) (hl : bs.length ≤ 131072) (h : a < 0 ∨ c < 0 ∨ bs.length < a ∨ bs.length < c ∨ (c < a + S.size ∧ a < c + t.size)) (hs : 100 < s.size) (ht : t.size ≤ 100) (hsm : s.size ≤ 9223372036854775807) (_htm : t.size ≤ 9223372036854775807) :
    Calls Tryd.prog 8 #[.int .i64 (b : Int), .slice q n cap, .int .i64 a, .string s, .int .i64 c, .string t] w fun e w' => e = .returned (.bool true) ∧ Below w.heap.size w w' := by
  have HS := Lib.hid (shown_ok V w hV)
  have HMd := Lib.hid hMd
  have HV := Lib.hid hV
  obtain ⟨N, hN⟩ : ∃ N, bs.length = N := ⟨_, rfl⟩
  have CZ := Lib.hid (fun p g => size_atT p g bs N hN)
  have zs : S.size = 100 := by rw [hS]; simp; omega
  have HSx := Lib.hid hS
  clear hS
  rw [hN] at hl h
  clear hV hMd hN
  obtain ⟨ha1, ha2⟩ := ha
  obtain ⟨hc1, hc2⟩ := hc
  go_enter Tryd.func8, Tryd.ntmps8
  go_wp2_with fail
  ((with_reducible refine HS.out.mono ?_))
  rintro e w1 ⟨rfl, hb⟩
  have HB1 := Lib.hid hb
  clear hb HS
  go_wp2_with fail
  rw [← HSx.out]
  ((with_reducible refine (HMd.out.call w1 HB1.out).mono ?_))
  rintro e w2 ⟨p, g, rfl, hA, hb, hgg, hpp⟩
  have Hp2 := Lib.hid hA
  have HB2 := Lib.hid (bstep HB1.out hb)
  clear hA hb
  go_wp2_with fail
  ((with_reducible refine (HMd.out.call w2 HB2.out).mono ?_))
  rintro e w3 ⟨p2, g2, rfl, hA, hb, hgg2, hpp2⟩
  have Hp23 := Lib.hid hA
  have Hp3' := Lib.hid (Hp2.out.below hb)
  have HB3 := Lib.hid (bstep HB2.out hb)
  clear hA hb
  have HCZ := Lib.hid (CZ.out p g w3 Hp3'.out)
  have r1 : a < 0 ∨ 0 ≤ a := by omega
  have r2 : c < 0 ∨ 0 ≤ c := by omega
  rcases r1 with r1 | r1
  · go_wp2
    go_ret
    exact ⟨rfl, HB3.out⟩
  rcases r2 with r2 | r2
  · go_wp2
    go_ret
    exact ⟨rfl, HB3.out⟩
  go_wp2_with fail
  ((with_reducible refine HCZ.out.mono ?_))
  rintro e w' ⟨rfl, rfl⟩
  by_cases r3 : (N : Int) < a
  · go_wp2
    go_ret
    exact ⟨rfl, HB3.out⟩
  go_wp2_with fail
  ((with_reducible refine HCZ.out.mono ?_))
  rintro e w' ⟨rfl, rfl⟩
  by_cases r4 : (N : Int) < c
  · go_wp2
    go_ret
    exact ⟨rfl, HB3.out⟩
  obtain ⟨h5, h6⟩ : c < a + S.size ∧ a < c + t.size := by omega
  clear h
  go_wp2
  go_ret
  exact ⟨rfl, HB3.out⟩
set_option maxRecDepth 100000 in
set_option maxHeartbeats 1000000 in
theorem lawArenaApart_in10 (V : VR) (b : Nat) (q : Option Addr) (n cap : Nat) (bs : List UInt8) (a c : Int) (s t : ByteArray) (S : ByteArray) (hS : S = s.extract 0 100) (w : World) (hV : RV w V) (hMd : MadeAt w b q n cap bs) (ha0 : 0 ≤ a) (hc0 : 0 ≤ c) (ha : InI a) (hc : InI c) (hl : bs.length ≤ 131072) (ha' : a ≤ bs.length) (hc' : c ≤ bs.length) (h : a + S.size ≤ c ∨ c + t.size ≤ a) (hs : 100 < s.size) (ht : t.size ≤ 100) (hsm : s.size ≤ 9223372036854775807) (_htm : t.size ≤ 9223372036854775807) :
    Calls Tryd.prog 8 #[.int .i64 (b : Int), .slice q n cap, .int .i64 a, .string s, .int .i64 c, .string t] w fun e w' => e = .returned (.bool true) ∧ Below w.heap.size w w' := by
  have HS := Lib.hid (shown_ok V w hV)
  have HMd := Lib.hid hMd
  have HV := Lib.hid hV
  obtain ⟨N, hN⟩ : ∃ N, bs.length = N := ⟨_, rfl⟩
  have CZ := Lib.hid (fun p g => size_atT p g bs N hN)
  have hcm := wrO_comm bs a c S t ha0 hc0 h
  have l1 := wrO_len bs a ha0 S
  have l2 := wrO_len bs c hc0 t
  have l3 := wrO_len (wrO bs a S) c hc0 t
  rw [l1] at l3
  rw [hN] at l1 l2 l3 hl ha' hc'
  have C1 := Lib.hid (fun p g W hW hA => write_o V p g bs N hN a S W hW hA ha0 ha)
  have C2 := Lib.hid (fun p g W hW hA => write_o V p g _ N l1 c t W hW hA hc0 hc)
  have C3 := Lib.hid (fun p g W hW hA => write_o V p g bs N hN c t W hW hA hc0 hc)
  have C4 := Lib.hid (fun p g W hW hA => write_o V p g _ N l2 a S W hW hA ha0 ha)
  rw [← hcm] at C4
  generalize wrE N a S = e1 at C1 C4
  generalize wrE N c t = e2 at C2 C3
  generalize wrO (wrO bs a S) c t = b3 at C2 C4 l3
  generalize wrO bs a S = b1 at C1 C2
  generalize wrO bs c t = b2 at C3 C4
  obtain ⟨X, hX⟩ : ∃ T : ByteArray, T = ⟨b3.toArray⟩ := ⟨_, rfl⟩
  have zX : X.size = N := by rw [hX, mk_size, l3]
  have CR := Lib.hid (fun p g => read_allT p g b3 X N hX l3)
  have CY := Lib.hid (fun p g => size_atT p g b3 N l3)
  have zs : S.size = 100 := by rw [hS]; simp; omega
  have HSx := Lib.hid hS
  clear hS
  clear hV hMd hN hcm l1 l2 l3 hX
  obtain ⟨ha1, ha2⟩ := ha
  obtain ⟨hc1, hc2⟩ := hc
  go_enter Tryd.func8, Tryd.ntmps8
  go_wp2_with fail
  ((with_reducible refine HS.out.mono ?_))
  rintro e w1 ⟨rfl, hb⟩
  have HB1 := Lib.hid hb
  clear hb HS
  go_wp2_with fail
  rw [← HSx.out]
  ((with_reducible refine (HMd.out.call w1 HB1.out).mono ?_))
  rintro e w2 ⟨p, g, rfl, hA, hb, hgg, hpp⟩
  have Hp2 := Lib.hid hA
  have HB2 := Lib.hid (bstep HB1.out hb)
  clear hA hb
  go_wp2_with fail
  ((with_reducible refine (HMd.out.call w2 HB2.out).mono ?_))
  rintro e w3 ⟨p2, g2, rfl, hA, hb, hgg2, hpp2⟩
  have Hp23 := Lib.hid hA
  have Hp3' := Lib.hid (Hp2.out.below hb)
  have HB3 := Lib.hid (bstep HB2.out hb)
  clear hA hb
  have HCZ := Lib.hid (CZ.out p g w3 Hp3'.out)
  have hgl := Hp2.out.hg.lt
  have hpl := Hp2.out.hp.lt
  have gs1 := HB1.out.size
  have gs2 := HB2.out.size
  go_wp2_with fail
  ((with_reducible refine HCZ.out.mono ?_))
  rintro e w' ⟨rfl, rfl⟩
  go_wp2_with fail
  ((with_reducible refine HCZ.out.mono ?_))
  rintro e w' ⟨rfl, rfl⟩
  clear HCZ
  by_cases h5 : c < a + S.size
  · have h6 : c + t.size ≤ a := by omega
    clear h
    have HC := Lib.hid (C1.out p g w3 (HV.out.below HB3.out) Hp3'.out)
    go_wp2_with fail
    ((with_reducible refine HC.out.mono ?_))
    rintro e w4 ⟨rfl, hA, hU⟩
    have HB4 := Lib.hid (Upd.below HB3.out hU HB3.out.size (by omega))
    have Hp4 := Lib.hid hA
    have Hq4 := Lib.hid (Hp23.out.other hU (by omega) (by omega))
    clear hA hU HC
    have HC := Lib.hid (C2.out p g w4 (HV.out.below HB4.out) Hp4.out)
    go_wp2_with fail
    ((with_reducible refine HC.out.mono ?_))
    rintro e w5 ⟨rfl, hA, hU⟩
    have HB5 := Lib.hid (Upd.below HB4.out hU HB4.out.size (by omega))
    have Hp5 := Lib.hid hA
    have Hq5 := Lib.hid (Hq4.out.other hU (by omega) (by omega))
    clear hA hU HC
    have HC := Lib.hid (C3.out p2 g2 w5 (HV.out.below HB5.out) Hq5.out)
    go_wp2_with fail
    ((with_reducible refine HC.out.mono ?_))
    rintro e w6 ⟨rfl, hA, hU⟩
    have HB6 := Lib.hid (Upd.below HB5.out hU HB5.out.size (by omega))
    have Hp6 := Lib.hid (Hp5.out.other hU (by omega) (by omega))
    have Hq6 := Lib.hid hA
    clear hA hU HC
    have HC := Lib.hid (C4.out p2 g2 w6 (HV.out.below HB6.out) Hq6.out)
    go_wp2_with fail
    ((with_reducible refine HC.out.mono ?_))
    rintro e w7 ⟨rfl, hA, hU⟩
    have HB7 := Lib.hid (Upd.below HB6.out hU HB6.out.size (by omega))
    have HA7 := Lib.hid (Hp6.out.other hU (by omega) (by omega))
    have Hq7 := Lib.hid hA
    clear hA hU HC
    have HC := Lib.hid (CY.out p g w7 HA7.out)
    go_wp2_with fail
    ((with_reducible refine HC.out.mono ?_))
    rintro e w' ⟨rfl, rfl⟩
    clear HC
    have hC := CR.out p g w7 HA7.out
    have HC := Lib.hid hC
    clear hC
    go_wp2_with fail
    ((with_reducible refine HC.out.mono ?_))
    rintro e w8 ⟨rfl, hb⟩
    have HB8 := Lib.hid (bstep HB7.out hb)
    have HA8 := Lib.hid (HA7.out.below hb)
    have Hq8 := Lib.hid (Hq7.out.below hb)
    clear hb HC
    have HC := Lib.hid (CY.out p2 g2 w8 Hq8.out)
    go_wp2_with fail
    ((with_reducible refine HC.out.mono ?_))
    rintro e w' ⟨rfl, rfl⟩
    clear HC
    have hC := CR.out p2 g2 w8 Hq8.out
    have HC := Lib.hid hC
    clear hC
    go_wp2_with fail
    ((with_reducible refine HC.out.mono ?_))
    rintro e w9 ⟨rfl, hb⟩
    have HB9 := Lib.hid (bstep HB8.out hb)
    have HA9 := Lib.hid (HA8.out.below hb)
    clear hb HC
    have HC := Lib.hid (CY.out p g w9 HA9.out)
    go_wp2_with fail
    ((with_reducible refine HC.out.mono ?_))
    rintro e w' ⟨rfl, rfl⟩
    clear HC
    go_wp2
    go_ret
    exact ⟨rfl, HB9.out⟩
  · have h6 : a + S.size ≤ c := by omega
    clear h
    have HC := Lib.hid (C1.out p g w3 (HV.out.below HB3.out) Hp3'.out)
    go_wp2_with fail
    ((with_reducible refine HC.out.mono ?_))
    rintro e w4 ⟨rfl, hA, hU⟩
    have HB4 := Lib.hid (Upd.below HB3.out hU HB3.out.size (by omega))
    have Hp4 := Lib.hid hA
    have Hq4 := Lib.hid (Hp23.out.other hU (by omega) (by omega))
    clear hA hU HC
    have HC := Lib.hid (C2.out p g w4 (HV.out.below HB4.out) Hp4.out)
    go_wp2_with fail
    ((with_reducible refine HC.out.mono ?_))
    rintro e w5 ⟨rfl, hA, hU⟩
    have HB5 := Lib.hid (Upd.below HB4.out hU HB4.out.size (by omega))
    have Hp5 := Lib.hid hA
    have Hq5 := Lib.hid (Hq4.out.other hU (by omega) (by omega))
    clear hA hU HC
    have HC := Lib.hid (C3.out p2 g2 w5 (HV.out.below HB5.out) Hq5.out)
    go_wp2_with fail
    ((with_reducible refine HC.out.mono ?_))
    rintro e w6 ⟨rfl, hA, hU⟩
    have HB6 := Lib.hid (Upd.below HB5.out hU HB5.out.size (by omega))
    have Hp6 := Lib.hid (Hp5.out.other hU (by omega) (by omega))
    have Hq6 := Lib.hid hA
    clear hA hU HC
    have HC := Lib.hid (C4.out p2 g2 w6 (HV.out.below HB6.out) Hq6.out)
    go_wp2_with fail
    ((with_reducible refine HC.out.mono ?_))
    rintro e w7 ⟨rfl, hA, hU⟩
    have HB7 := Lib.hid (Upd.below HB6.out hU HB6.out.size (by omega))
    have HA7 := Lib.hid (Hp6.out.other hU (by omega) (by omega))
    have Hq7 := Lib.hid hA
    clear hA hU HC
    have HC := Lib.hid (CY.out p g w7 HA7.out)
    go_wp2_with fail
    ((with_reducible refine HC.out.mono ?_))
    rintro e w' ⟨rfl, rfl⟩
    clear HC
    have hC := CR.out p g w7 HA7.out
    have HC := Lib.hid hC
    clear hC
    go_wp2_with fail
    ((with_reducible refine HC.out.mono ?_))
    rintro e w8 ⟨rfl, hb⟩
    have HB8 := Lib.hid (bstep HB7.out hb)
    have HA8 := Lib.hid (HA7.out.below hb)
    have Hq8 := Lib.hid (Hq7.out.below hb)
    clear hb HC
    have HC := Lib.hid (CY.out p2 g2 w8 Hq8.out)
    go_wp2_with fail
    ((with_reducible refine HC.out.mono ?_))
    rintro e w' ⟨rfl, rfl⟩
    clear HC
    have hC := CR.out p2 g2 w8 Hq8.out
    have HC := Lib.hid hC
    clear hC
    go_wp2_with fail
    ((with_reducible refine HC.out.mono ?_))
    rintro e w9 ⟨rfl, hb⟩
    have HB9 := Lib.hid (bstep HB8.out hb)
    have HA9 := Lib.hid (HA8.out.below hb)
    clear hb HC
    have HC := Lib.hid (CY.out p g w9 HA9.out)
    go_wp2_with fail
    ((with_reducible refine HC.out.mono ?_))
    rintro e w' ⟨rfl, rfl⟩
    clear HC
    go_wp2
    go_ret
    exact ⟨rfl, HB9.out⟩
set_option maxRecDepth 100000 in
set_option maxHeartbeats 1000000 in
theorem lawArenaApart_bad11 (V : VR) (b : Int) (q : Option Addr) (n cap : Nat) (a c : Int) (s t : ByteArray) (S : ByteArray) (hS : S = s.extract 0 100) (T : ByteArray) (hT : T = t.extract 0 100) (w : World) (hV : RV w V) (hb : InI b) (h : b < 1 ∨ 32 < b) (hs : 100 < s.size) (ht : 100 < t.size) (hsm : s.size ≤ 9223372036854775807) (htm : t.size ≤ 9223372036854775807) :
    Calls Tryd.prog 8 #[.int .i64 b, .slice q n cap, .int .i64 a, .string s, .int .i64 c, .string t] w fun e w' => e = .returned (.bool true) ∧ Below w.heap.size w w' := by
  have HS := Lib.hid (shown_ok V w hV)
  have HMd := Lib.hid (fun W (hW : Below w.heap.size w W) => made_bad V b (.slice q n cap) W (hV.below hW) hb h)
  clear hV hb h
  have zs : S.size = 100 := by rw [hS]; simp; omega
  have HSx := Lib.hid hS
  clear hS
  have zt : T.size = 100 := by rw [hT]; simp; omega
  have HTx := Lib.hid hT
  clear hT
  go_enter Tryd.func8, Tryd.ntmps8
  go_wp2_with fail
  ((with_reducible refine HS.out.mono ?_))
  rintro e w1 ⟨rfl, hb⟩
  have HB1 := Lib.hid hb
  clear hb HS
  go_wp2_with fail
  rw [← HSx.out]
  rw [← HTx.out]
  ((with_reducible refine (HMd.out w1 HB1.out).mono ?_))
  rintro e w2 ⟨rfl, hb⟩
  have HB2 := Lib.hid (bstep HB1.out hb)
  clear hb
  go_wp2_with fail
  ((with_reducible refine (HMd.out w2 HB2.out).mono ?_))
  rintro e w3 ⟨rfl, hb⟩
  have HB3 := Lib.hid (bstep HB2.out hb)
  clear hb
  go_wp2
  go_ret
  exact ⟨rfl, HB3.out⟩
set_option maxRecDepth 100000 in
set_option maxHeartbeats 1000000 in
theorem lawArenaApart_out11 (V : VR) (b : Nat) (q : Option Addr) (n cap : Nat) (bs : List UInt8) (a c : Int) (s t : ByteArray) (S : ByteArray) (hS : S = s.extract 0 100) (T : ByteArray) (hT : T = t.extract 0 100) (w : World) (hV : RV w V) (hMd : MadeAt w b q n cap bs) (ha : InI a) (hc : InI c) (hl : bs.length ≤ 131072) (h : a < 0 ∨ c < 0 ∨ bs.length < a ∨ bs.length < c ∨ (c < a + S.size ∧ a < c + T.size)) (hs : 100 < s.size) (ht : 100 < t.size) (hsm : s.size ≤ 9223372036854775807) (htm : t.size ≤ 9223372036854775807) :
    Calls Tryd.prog 8 #[.int .i64 (b : Int), .slice q n cap, .int .i64 a, .string s, .int .i64 c, .string t] w fun e w' => e = .returned (.bool true) ∧ Below w.heap.size w w' := by
  have HS := Lib.hid (shown_ok V w hV)
  have HMd := Lib.hid hMd
  have HV := Lib.hid hV
  obtain ⟨N, hN⟩ : ∃ N, bs.length = N := ⟨_, rfl⟩
  have CZ := Lib.hid (fun p g => size_atT p g bs N hN)
  have zs : S.size = 100 := by rw [hS]; simp; omega
  have HSx := Lib.hid hS
  clear hS
  have zt : T.size = 100 := by rw [hT]; simp; omega
  have HTx := Lib.hid hT
  clear hT
  rw [hN] at hl h
  clear hV hMd hN
  obtain ⟨ha1, ha2⟩ := ha
  obtain ⟨hc1, hc2⟩ := hc
  go_enter Tryd.func8, Tryd.ntmps8
  go_wp2_with fail
  ((with_reducible refine HS.out.mono ?_))
  rintro e w1 ⟨rfl, hb⟩
  have HB1 := Lib.hid hb
  clear hb HS
  go_wp2_with fail
  rw [← HSx.out]
  rw [← HTx.out]
  ((with_reducible refine (HMd.out.call w1 HB1.out).mono ?_))
  rintro e w2 ⟨p, g, rfl, hA, hb, hgg, hpp⟩
  have Hp2 := Lib.hid hA
  have HB2 := Lib.hid (bstep HB1.out hb)
  clear hA hb
  go_wp2_with fail
  ((with_reducible refine (HMd.out.call w2 HB2.out).mono ?_))
  rintro e w3 ⟨p2, g2, rfl, hA, hb, hgg2, hpp2⟩
  have Hp23 := Lib.hid hA
  have Hp3' := Lib.hid (Hp2.out.below hb)
  have HB3 := Lib.hid (bstep HB2.out hb)
  clear hA hb
  have HCZ := Lib.hid (CZ.out p g w3 Hp3'.out)
  have r1 : a < 0 ∨ 0 ≤ a := by omega
  have r2 : c < 0 ∨ 0 ≤ c := by omega
  rcases r1 with r1 | r1
  · go_wp2
    go_ret
    exact ⟨rfl, HB3.out⟩
  rcases r2 with r2 | r2
  · go_wp2
    go_ret
    exact ⟨rfl, HB3.out⟩
  go_wp2_with fail
  ((with_reducible refine HCZ.out.mono ?_))
  rintro e w' ⟨rfl, rfl⟩
  by_cases r3 : (N : Int) < a
  · go_wp2
    go_ret
    exact ⟨rfl, HB3.out⟩
  go_wp2_with fail
  ((with_reducible refine HCZ.out.mono ?_))
  rintro e w' ⟨rfl, rfl⟩
  by_cases r4 : (N : Int) < c
  · go_wp2
    go_ret
    exact ⟨rfl, HB3.out⟩
  obtain ⟨h5, h6⟩ : c < a + S.size ∧ a < c + T.size := by omega
  clear h
  go_wp2
  go_ret
  exact ⟨rfl, HB3.out⟩
set_option maxRecDepth 100000 in
set_option maxHeartbeats 1000000 in
theorem lawArenaApart_in11 (V : VR) (b : Nat) (q : Option Addr) (n cap : Nat) (bs : List UInt8) (a c : Int) (s t : ByteArray) (S : ByteArray) (hS : S = s.extract 0 100) (T : ByteArray) (hT : T = t.extract 0 100) (w : World) (hV : RV w V) (hMd : MadeAt w b q n cap bs) (ha0 : 0 ≤ a) (hc0 : 0 ≤ c) (ha : InI a) (hc : InI c) (hl : bs.length ≤ 131072) (ha' : a ≤ bs.length) (hc' : c ≤ bs.length) (h : a + S.size ≤ c ∨ c + T.size ≤ a) (hs : 100 < s.size) (ht : 100 < t.size) (hsm : s.size ≤ 9223372036854775807) (htm : t.size ≤ 9223372036854775807) :
    Calls Tryd.prog 8 #[.int .i64 (b : Int), .slice q n cap, .int .i64 a, .string s, .int .i64 c, .string t] w fun e w' => e = .returned (.bool true) ∧ Below w.heap.size w w' := by
  have HS := Lib.hid (shown_ok V w hV)
  have HMd := Lib.hid hMd
  have HV := Lib.hid hV
  obtain ⟨N, hN⟩ : ∃ N, bs.length = N := ⟨_, rfl⟩
  have CZ := Lib.hid (fun p g => size_atT p g bs N hN)
  have hcm := wrO_comm bs a c S T ha0 hc0 h
  have l1 := wrO_len bs a ha0 S
  have l2 := wrO_len bs c hc0 T
  have l3 := wrO_len (wrO bs a S) c hc0 T
  rw [l1] at l3
  rw [hN] at l1 l2 l3 hl ha' hc'
  have C1 := Lib.hid (fun p g W hW hA => write_o V p g bs N hN a S W hW hA ha0 ha)
  have C2 := Lib.hid (fun p g W hW hA => write_o V p g _ N l1 c T W hW hA hc0 hc)
  have C3 := Lib.hid (fun p g W hW hA => write_o V p g bs N hN c T W hW hA hc0 hc)
  have C4 := Lib.hid (fun p g W hW hA => write_o V p g _ N l2 a S W hW hA ha0 ha)
  rw [← hcm] at C4
  generalize wrE N a S = e1 at C1 C4
  generalize wrE N c T = e2 at C2 C3
  generalize wrO (wrO bs a S) c T = b3 at C2 C4 l3
  generalize wrO bs a S = b1 at C1 C2
  generalize wrO bs c T = b2 at C3 C4
  obtain ⟨X, hX⟩ : ∃ T : ByteArray, T = ⟨b3.toArray⟩ := ⟨_, rfl⟩
  have zX : X.size = N := by rw [hX, mk_size, l3]
  have CR := Lib.hid (fun p g => read_allT p g b3 X N hX l3)
  have CY := Lib.hid (fun p g => size_atT p g b3 N l3)
  have zs : S.size = 100 := by rw [hS]; simp; omega
  have HSx := Lib.hid hS
  clear hS
  have zt : T.size = 100 := by rw [hT]; simp; omega
  have HTx := Lib.hid hT
  clear hT
  clear hV hMd hN hcm l1 l2 l3 hX
  obtain ⟨ha1, ha2⟩ := ha
  obtain ⟨hc1, hc2⟩ := hc
  go_enter Tryd.func8, Tryd.ntmps8
  go_wp2_with fail
  ((with_reducible refine HS.out.mono ?_))
  rintro e w1 ⟨rfl, hb⟩
  have HB1 := Lib.hid hb
  clear hb HS
  go_wp2_with fail
  rw [← HSx.out]
  rw [← HTx.out]
  ((with_reducible refine (HMd.out.call w1 HB1.out).mono ?_))
  rintro e w2 ⟨p, g, rfl, hA, hb, hgg, hpp⟩
  have Hp2 := Lib.hid hA
  have HB2 := Lib.hid (bstep HB1.out hb)
  clear hA hb
  go_wp2_with fail
  ((with_reducible refine (HMd.out.call w2 HB2.out).mono ?_))
  rintro e w3 ⟨p2, g2, rfl, hA, hb, hgg2, hpp2⟩
  have Hp23 := Lib.hid hA
  have Hp3' := Lib.hid (Hp2.out.below hb)
  have HB3 := Lib.hid (bstep HB2.out hb)
  clear hA hb
  have HCZ := Lib.hid (CZ.out p g w3 Hp3'.out)
  have hgl := Hp2.out.hg.lt
  have hpl := Hp2.out.hp.lt
  have gs1 := HB1.out.size
  have gs2 := HB2.out.size
  go_wp2_with fail
  ((with_reducible refine HCZ.out.mono ?_))
  rintro e w' ⟨rfl, rfl⟩
  go_wp2_with fail
  ((with_reducible refine HCZ.out.mono ?_))
  rintro e w' ⟨rfl, rfl⟩
  clear HCZ
  by_cases h5 : c < a + S.size
  · have h6 : c + T.size ≤ a := by omega
    clear h
    have HC := Lib.hid (C1.out p g w3 (HV.out.below HB3.out) Hp3'.out)
    go_wp2_with fail
    ((with_reducible refine HC.out.mono ?_))
    rintro e w4 ⟨rfl, hA, hU⟩
    have HB4 := Lib.hid (Upd.below HB3.out hU HB3.out.size (by omega))
    have Hp4 := Lib.hid hA
    have Hq4 := Lib.hid (Hp23.out.other hU (by omega) (by omega))
    clear hA hU HC
    have HC := Lib.hid (C2.out p g w4 (HV.out.below HB4.out) Hp4.out)
    go_wp2_with fail
    ((with_reducible refine HC.out.mono ?_))
    rintro e w5 ⟨rfl, hA, hU⟩
    have HB5 := Lib.hid (Upd.below HB4.out hU HB4.out.size (by omega))
    have Hp5 := Lib.hid hA
    have Hq5 := Lib.hid (Hq4.out.other hU (by omega) (by omega))
    clear hA hU HC
    have HC := Lib.hid (C3.out p2 g2 w5 (HV.out.below HB5.out) Hq5.out)
    go_wp2_with fail
    ((with_reducible refine HC.out.mono ?_))
    rintro e w6 ⟨rfl, hA, hU⟩
    have HB6 := Lib.hid (Upd.below HB5.out hU HB5.out.size (by omega))
    have Hp6 := Lib.hid (Hp5.out.other hU (by omega) (by omega))
    have Hq6 := Lib.hid hA
    clear hA hU HC
    have HC := Lib.hid (C4.out p2 g2 w6 (HV.out.below HB6.out) Hq6.out)
    go_wp2_with fail
    ((with_reducible refine HC.out.mono ?_))
    rintro e w7 ⟨rfl, hA, hU⟩
    have HB7 := Lib.hid (Upd.below HB6.out hU HB6.out.size (by omega))
    have HA7 := Lib.hid (Hp6.out.other hU (by omega) (by omega))
    have Hq7 := Lib.hid hA
    clear hA hU HC
    have HC := Lib.hid (CY.out p g w7 HA7.out)
    go_wp2_with fail
    ((with_reducible refine HC.out.mono ?_))
    rintro e w' ⟨rfl, rfl⟩
    clear HC
    have hC := CR.out p g w7 HA7.out
    have HC := Lib.hid hC
    clear hC
    go_wp2_with fail
    ((with_reducible refine HC.out.mono ?_))
    rintro e w8 ⟨rfl, hb⟩
    have HB8 := Lib.hid (bstep HB7.out hb)
    have HA8 := Lib.hid (HA7.out.below hb)
    have Hq8 := Lib.hid (Hq7.out.below hb)
    clear hb HC
    have HC := Lib.hid (CY.out p2 g2 w8 Hq8.out)
    go_wp2_with fail
    ((with_reducible refine HC.out.mono ?_))
    rintro e w' ⟨rfl, rfl⟩
    clear HC
    have hC := CR.out p2 g2 w8 Hq8.out
    have HC := Lib.hid hC
    clear hC
    go_wp2_with fail
    ((with_reducible refine HC.out.mono ?_))
    rintro e w9 ⟨rfl, hb⟩
    have HB9 := Lib.hid (bstep HB8.out hb)
    have HA9 := Lib.hid (HA8.out.below hb)
    clear hb HC
    have HC := Lib.hid (CY.out p g w9 HA9.out)
    go_wp2_with fail
    ((with_reducible refine HC.out.mono ?_))
    rintro e w' ⟨rfl, rfl⟩
    clear HC
    go_wp2
    go_ret
    exact ⟨rfl, HB9.out⟩
  · have h6 : a + S.size ≤ c := by omega
    clear h
    have HC := Lib.hid (C1.out p g w3 (HV.out.below HB3.out) Hp3'.out)
    go_wp2_with fail
    ((with_reducible refine HC.out.mono ?_))
    rintro e w4 ⟨rfl, hA, hU⟩
    have HB4 := Lib.hid (Upd.below HB3.out hU HB3.out.size (by omega))
    have Hp4 := Lib.hid hA
    have Hq4 := Lib.hid (Hp23.out.other hU (by omega) (by omega))
    clear hA hU HC
    have HC := Lib.hid (C2.out p g w4 (HV.out.below HB4.out) Hp4.out)
    go_wp2_with fail
    ((with_reducible refine HC.out.mono ?_))
    rintro e w5 ⟨rfl, hA, hU⟩
    have HB5 := Lib.hid (Upd.below HB4.out hU HB4.out.size (by omega))
    have Hp5 := Lib.hid hA
    have Hq5 := Lib.hid (Hq4.out.other hU (by omega) (by omega))
    clear hA hU HC
    have HC := Lib.hid (C3.out p2 g2 w5 (HV.out.below HB5.out) Hq5.out)
    go_wp2_with fail
    ((with_reducible refine HC.out.mono ?_))
    rintro e w6 ⟨rfl, hA, hU⟩
    have HB6 := Lib.hid (Upd.below HB5.out hU HB5.out.size (by omega))
    have Hp6 := Lib.hid (Hp5.out.other hU (by omega) (by omega))
    have Hq6 := Lib.hid hA
    clear hA hU HC
    have HC := Lib.hid (C4.out p2 g2 w6 (HV.out.below HB6.out) Hq6.out)
    go_wp2_with fail
    ((with_reducible refine HC.out.mono ?_))
    rintro e w7 ⟨rfl, hA, hU⟩
    have HB7 := Lib.hid (Upd.below HB6.out hU HB6.out.size (by omega))
    have HA7 := Lib.hid (Hp6.out.other hU (by omega) (by omega))
    have Hq7 := Lib.hid hA
    clear hA hU HC
    have HC := Lib.hid (CY.out p g w7 HA7.out)
    go_wp2_with fail
    ((with_reducible refine HC.out.mono ?_))
    rintro e w' ⟨rfl, rfl⟩
    clear HC
    have hC := CR.out p g w7 HA7.out
    have HC := Lib.hid hC
    clear hC
    go_wp2_with fail
    ((with_reducible refine HC.out.mono ?_))
    rintro e w8 ⟨rfl, hb⟩
    have HB8 := Lib.hid (bstep HB7.out hb)
    have HA8 := Lib.hid (HA7.out.below hb)
    have Hq8 := Lib.hid (Hq7.out.below hb)
    clear hb HC
    have HC := Lib.hid (CY.out p2 g2 w8 Hq8.out)
    go_wp2_with fail
    ((with_reducible refine HC.out.mono ?_))
    rintro e w' ⟨rfl, rfl⟩
    clear HC
    have hC := CR.out p2 g2 w8 Hq8.out
    have HC := Lib.hid hC
    clear hC
    go_wp2_with fail
    ((with_reducible refine HC.out.mono ?_))
    rintro e w9 ⟨rfl, hb⟩
    have HB9 := Lib.hid (bstep HB8.out hb)
    have HA9 := Lib.hid (HA8.out.below hb)
    clear hb HC
    have HC := Lib.hid (CY.out p g w9 HA9.out)
    go_wp2_with fail
    ((with_reducible refine HC.out.mono ?_))
    rintro e w' ⟨rfl, rfl⟩
    clear HC
    go_wp2
    go_ret
    exact ⟨rfl, HB9.out⟩

theorem lawArenaApart (V : VR) (b : Int) (q : Option Addr) (n cap : Nat) (a : Int) (s : ByteArray) (c : Int) (t : ByteArray) (w : World) (hV : RV w V) (hb : InI b) (hl : n ≤ cap) (hm : cap ≤ maxLen) (hI : ∃ xs, OL w q xs ∧ xs.length = n) (ha : InI a) (hs : s.size ≤ maxLen) (hc : InI c) (ht : t.size ≤ maxLen) :
    Calls Tryd.prog 8 #[.int .i64 b, .slice q n cap, .int .i64 a, .string s, .int .i64 c, .string t] w fun e w' => e = .returned (.bool true) ∧ Below w.heap.size w w' := by
  have hsm : s.size ≤ 9223372036854775807 := by unfold maxLen at hs; omega
  have htm : t.size ≤ 9223372036854775807 := by unfold maxLen at ht; omega
  by_cases h : b < 1 ∨ 32 < b
  · by_cases h1 : s.size ≤ 100 <;> by_cases h2 : t.size ≤ 100
    · exact lawArenaApart_bad00 V b q n cap a c s t w hV hb h h1 h2 hsm htm
    · exact lawArenaApart_bad01 V b q n cap a c s t _ rfl w hV hb h h1 (by omega) hsm htm
    · exact lawArenaApart_bad10 V b q n cap a c s t _ rfl w hV hb h (by omega) h2 hsm htm
    · exact lawArenaApart_bad11 V b q n cap a c s t _ rfl _ rfl w hV hb h (by omega) (by omega) hsm htm
  · obtain ⟨b, rfl⟩ : ∃ c : Nat, b = c := ⟨b.toNat, by omega⟩
    obtain ⟨bs, hbl, hMd⟩ := made_at V b q n cap w hV (by omega) (by omega) hI hl hm
    by_cases h1 : s.size ≤ 100 <;> by_cases h2 : t.size ≤ 100
    · by_cases h3 : a < 0 ∨ c < 0 ∨ bs.length < a ∨ bs.length < c ∨ (c < a + s.size ∧ a < c + t.size)
      · exact lawArenaApart_out00 V b q n cap bs a c s t w hV hMd ha hc (by omega) h3 h1 h2 hsm htm
      · exact lawArenaApart_in00 V b q n cap bs a c s t w hV hMd (by omega) (by omega) ha hc (by omega) (by omega) (by omega) (by omega) h1 h2 hsm htm
    · by_cases h3 : a < 0 ∨ c < 0 ∨ bs.length < a ∨ bs.length < c ∨ (c < a + s.size ∧ a < c + (t.extract 0 100).size)
      · exact lawArenaApart_out01 V b q n cap bs a c s t _ rfl w hV hMd ha hc (by omega) h3 h1 (by omega) hsm htm
      · exact lawArenaApart_in01 V b q n cap bs a c s t _ rfl w hV hMd (by omega) (by omega) ha hc (by omega) (by omega) (by omega) (by omega) h1 (by omega) hsm htm
    · by_cases h3 : a < 0 ∨ c < 0 ∨ bs.length < a ∨ bs.length < c ∨ (c < a + (s.extract 0 100).size ∧ a < c + t.size)
      · exact lawArenaApart_out10 V b q n cap bs a c s t _ rfl w hV hMd ha hc (by omega) h3 (by omega) h2 hsm htm
      · exact lawArenaApart_in10 V b q n cap bs a c s t _ rfl w hV hMd (by omega) (by omega) ha hc (by omega) (by omega) (by omega) (by omega) (by omega) h2 hsm htm
    · by_cases h3 : a < 0 ∨ c < 0 ∨ bs.length < a ∨ bs.length < c ∨ (c < a + (s.extract 0 100).size ∧ a < c + (t.extract 0 100).size)
      · exact lawArenaApart_out11 V b q n cap bs a c s t _ rfl _ rfl w hV hMd ha hc (by omega) h3 (by omega) (by omega) hsm htm
      · exact lawArenaApart_in11 V b q n cap bs a c s t _ rfl _ rfl w hV hMd (by omega) (by omega) ha hc (by omega) (by omega) (by omega) (by omega) (by omega) (by omega) hsm htm
end Go.Proofs.YtchaojdjgbeepaaDoor
