/-
  selionlaw03.ArenaZeroes, for every input.
-/
import Derived.Test.YtchaojdjgbeepaaDoorArY
namespace Go.Proofs.YtchaojdjgbeepaaDoor
open Go.RowKit Go.Lib Go.Shelf
attribute [local go_sem] Oper.semAt_some

theorem ArT.al {t : TypeId} {w : World} {p g : Nat} {bs : List UInt8} (h : ArT t w p g bs) (o : Obj) : ArT t (w.alloc o) p g bs := h.below ((Below.refl _ _).alloc (Nat.le_refl _) o)
theorem cnt_parts (bs : List UInt8) (i k : Nat) : cntB bs = cntB (bs.take i) + cntB ((bs.drop i).take k) + cntB (bs.drop (i + k)) := by
  conv => lhs; rw [← List.take_append_drop i bs, ← List.take_append_drop k (bs.drop i)]
  rw [cntB_app, cntB_app, List.drop_drop, Nat.add_assoc]
theorem cnt_zero (bs : List UInt8) (i k : Nat) : cntB (wrL bs i (List.replicate k 0)) + cntB ((bs.drop i).take k) = cntB bs := by
  have h1 := cntB_wrL bs i (List.replicate k 0)
  have h2 := cntB_zer k
  have h3 := cnt_parts bs i k
  rw [zer] at h2
  rw [h2, List.length_replicate] at h1
  omega
theorem cnt_snoc (l : List UInt8) (c : UInt8) : cntB (l ++ [c]) = cntB l + if c.toNat = 0 then 0 else 1 := by
  rw [cntB_app]
  congr 1
  unfold cntB
  by_cases h : c.toNat = 0
  · rw [if_pos h]
    have : c = 0 := by rw [← UInt8.toNat_inj]; simpa using h
    subst this
    rfl
  · rw [if_neg h]
    have : c ≠ 0 := fun e => h (by rw [e]; rfl)
    simp [this]
theorem cnt_le (l : List UInt8) : cntB l ≤ l.length := List.countP_le_length
theorem take_snocB (s : ByteArray) (k : Nat) (h : k < s.size) : s.data.toList.take (k + 1) = s.data.toList.take k ++ [s[k]] := by
  rw [List.take_succ_eq_append_getElem (by simpa using h)]; rfl
theorem read_zero (p g : Nat) (bs : List UInt8) (i k : Nat) (Z : ByteArray) (hZ : Z = ⟨(zer k).toArray⟩) (h : i + k ≤ bs.length) (W : World) (hA : Ar W p g (wrL bs i (List.replicate k 0))) :
    Calls Tryd.prog 21 #[.pointer (some ⟨p, 0, none⟩), .int .i64 (i : Int), .int .i64 (k : Int)] W fun e w' => e = .returned (.tuple #[.string Z, .int .i64 0]) ∧ Below W.heap.size W w' := by
  have h5 := read_ok p g _ i k W hA (by rw [wrL_len _ _ _ (by simpa using h)]; exact h)
  have h1 : (bs.take i).length = i := by simp; omega
  have h6 : ((wrL bs i (List.replicate k 0)).drop i).take k = zer k := by
    rw [wrL, List.append_assoc, List.drop_append_of_le_length (by omega), List.drop_eq_nil_of_le (by omega)]
    simp [zer]
  rw [h6, ← hZ] at h5
  exact h5
theorem cv_zero (k : Nat) (Z : ByteArray) (hZ : Z = ⟨(zer k).toArray⟩) (w : World) : (convert 48 9 (.slice (some ⟨w.heap.size, 0, none⟩) k k)).run Tryd.prog (w.alloc (.cells (zbytes k) 5)) = .ok (.string Z) (w.alloc (.cells (zbytes k) 5)) := by
  have hb : Blk (w.alloc (.cells (zbytes k) 5)) w.heap.size (byteCells (zer k)).toArray 5 := by rw [← zbytes_eq]; exact Blk.new w _ _
  generalize w.alloc (.cells (zbytes k) 5) = W at hb ⊢
  generalize w.heap.size = g at hb ⊢
  rw [run_convert_bytes_string W _ _ 5 _ _ _ Tryd.und8 (by kernel_rfl) (by kernel_rfl)]
  rw [run_bytesToString W _ _ _ ((zer k).map fun b : UInt8 => (b.toNat : Int)) ?_, push_fold]
  · rw [hZ]; simp
  · have := run_loadCells_list (P := Tryd.prog) W ⟨g, 0, none⟩ (byteCells (zer k)) ?_
    · rw [byteCells_length, zer_len] at this
      rw [this]
      simp [byteCells, Function.comp_def]
    · intro j v hv
      rw [show (⟨g, 0, none⟩ : Addr).add j = ⟨g, j, none⟩ by simp [Addr.add]; omega]
      exact hb.cell (by simpa using hv)
set_option maxRecDepth 100000 in
set_option maxHeartbeats 1000000 in
theorem lawArenaZeroes_bad (V : VR) (b : Int) (q : Option Addr) (n cap : Nat) (a k : Int) (w : World) (hV : RV w V) (hb : InI b) (h : b < 1 ∨ 32 < b) :
    Calls Tryd.prog 7 #[.int .i64 b, .slice q n cap, .int .i64 a, .int .i64 k] w fun e w' => e = .returned (.bool true) ∧ Below w.heap.size w w' := by
  have HS := Lib.hid (shown_ok V w hV)
  have HMd := Lib.hid (fun W (hW : Below w.heap.size w W) => made_bad V b (.slice q n cap) W (hV.below hW) hb h)
  clear hV hb h
  go_enter Tryd.func7, Tryd.ntmps7
  go_wp2_with fail
  ((with_reducible refine HS.out.mono ?_))
  rintro e w1 ⟨rfl, hb⟩
  have HB1 := Lib.hid hb
  clear hb HS
  go_wp2_with fail
  ((with_reducible refine (HMd.out w1 HB1.out).mono ?_))
  rintro e w2 ⟨rfl, hb⟩
  have HB2 := Lib.hid (bstep HB1.out hb)
  clear hb
  go_wp2
  go_ret
  exact ⟨rfl, HB2.out⟩
set_option maxRecDepth 100000 in
set_option maxHeartbeats 1000000 in
theorem lawArenaZeroes_no (V : VR) (b : Nat) (q : Option Addr) (n cap : Nat) (bs : List UInt8) (a k : Int) (w : World) (hV : RV w V) (hMd : MadeAt w b q n cap bs) (ha : InI a) (h : ¬ okB bs.length a k 1) (h0 : 0 < bs.length) :
    Calls Tryd.prog 7 #[.int .i64 (b : Int), .slice q n cap, .int .i64 a, .int .i64 k] w fun e w' => e = .returned (.bool true) ∧ Below w.heap.size w w' := by
  have HS := Lib.hid (shown_ok V w hV)
  have HMd := Lib.hid hMd
  have HV := Lib.hid hV
  have HN := Lib.hid h
  clear hV hMd h
  go_enter Tryd.func7, Tryd.ntmps7
  go_wp2_with fail
  ((with_reducible refine HS.out.mono ?_))
  rintro e w1 ⟨rfl, hb⟩
  have HB1 := Lib.hid hb
  clear hb HS
  go_wp2_with fail
  ((with_reducible refine (HMd.out.call w1 HB1.out).mono ?_))
  rintro e w2 ⟨p, g, rfl, hA, hb, hgg, hpp⟩
  have HA2 := Lib.hid hA
  have HB2 := Lib.hid (bstep HB1.out hb)
  clear hA hb
  have hC := read_bad V p g bs a k w2 (HV.out.below HB2.out) HA2.out ha HN.out
  have HC := Lib.hid hC
  clear hC
  go_wp2_with fail
  ((with_reducible refine HC.out.mono ?_))
  rintro e w3 ⟨rfl, hb⟩
  have HB3 := Lib.hid (bstep HB2.out hb)
  have HA3 := Lib.hid (HA2.out.below hb)
  clear hb HC
  have hC := count_ok p g bs w3 HA3.out h0
  have HC := Lib.hid hC
  clear hC
  go_wp2_with fail
  ((with_reducible refine HC.out.mono ?_))
  rintro e w4 ⟨rfl, hb⟩
  have HB4 := Lib.hid (bstep HB3.out hb)
  have HA4 := Lib.hid (HA3.out.below hb)
  clear hb HC
  have hC := zero_bad V p g bs a k w4 (HV.out.below HB4.out) HA4.out ha HN.out
  have HC := Lib.hid hC
  clear hC
  go_wp2_with fail
  ((with_reducible refine HC.out.mono ?_))
  rintro e w5 ⟨rfl, hb⟩
  have HB5 := Lib.hid (bstep HB4.out hb)
  have HA5 := Lib.hid (HA4.out.below hb)
  clear hb HC
  have hC := count_ok p g bs w5 HA5.out h0
  have HC := Lib.hid hC
  clear hC
  go_wp2_with fail
  ((with_reducible refine HC.out.mono ?_))
  rintro e w6 ⟨rfl, hb⟩
  have HB6 := Lib.hid (bstep HB5.out hb)
  have HA6 := Lib.hid (HA5.out.below hb)
  clear hb HC
  go_wp2
  go_ret
  exact ⟨rfl, HB6.out⟩
set_option maxRecDepth 100000 in
set_option maxHeartbeats 1000000 in
theorem lawArenaZeroes_ok (V : VR) (b : Nat) (q : Option Addr) (n cap : Nat) (bs : List UInt8) (i k : Nat) (w : World) (hV : RV w V) (hMd : MadeAt w b q n cap bs) (h1 : i + k ≤ bs.length) (h0 : 0 < bs.length) (hl : bs.length ≤ 131072) :
    Calls Tryd.prog 7 #[.int .i64 (b : Int), .slice q n cap, .int .i64 (i : Int), .int .i64 (k : Int)] w fun e w' => e = .returned (.bool true) ∧ Below w.heap.size w w' := by
  have HS := Lib.hid (shown_ok V w hV)
  have HMd := Lib.hid hMd
  have hcz := cnt_zero bs i k
  have hcl := cnt_le bs
  have hzl : (wrL bs i (List.replicate k 0)).length = bs.length := wrL_len _ _ _ (by simpa using h1)
  obtain ⟨S, hS⟩ : ∃ S : ByteArray, S = ⟨((bs.drop i).take k).toArray⟩ := ⟨_, rfl⟩
  obtain ⟨Z, hZ⟩ : ∃ Z : ByteArray, Z = ⟨(zer k).toArray⟩ := ⟨_, rfl⟩
  have zS : S.size = k := by rw [hS, mk_size]; simp; omega
  have zZ : Z.size = k := by rw [hZ, mk_size, zer_len]
  have CR := Lib.hid (fun p g W hW => read_ok p g bs i k W hW h1)
  rw [← hS] at CR
  have CC := Lib.hid (fun p g W hW => count_ok p g bs W hW h0)
  have CZ := Lib.hid (fun p g W hW => zero_ok p g bs i k W hW h1)
  have CR2 := Lib.hid (fun p g => read_zero p g bs i k Z hZ h1)
  have CC2 := Lib.hid (fun p g W hW => count_ok p g (wrL bs i (List.replicate k 0)) W hW (by omega))
  have hSl : (bs.drop i).take k = S.data.toList := by rw [hS]
  rw [hSl] at hcz
  have hmk := mkB k (by omega)
  have hcv := cv_zero k Z hZ
  generalize wrL bs i (List.replicate k 0) = bs2 at CC2 CZ CR2 hcz hzl
  obtain ⟨c0, e0⟩ : ∃ c, cntB bs = c := ⟨_, rfl⟩
  obtain ⟨c1, e1⟩ : ∃ c, cntB S.data.toList = c := ⟨_, rfl⟩
  obtain ⟨c2, e2⟩ : ∃ c, cntB bs2 = c := ⟨_, rfl⟩
  rw [e0] at CC hcl hcz
  rw [e1] at hcz
  rw [e2] at CC2 hcz
  have E1 := Lib.hid e1
  have hc2 : c1 ≤ c0 := by omega
  have hc3 : ((c2 : Int) == (c0 : Int) - (c1 : Int)) = true := by simp; omega
  have HC3 := Lib.hid (show (c2 : Int) = (c0 : Int) - (c1 : Int) by omega)
  clear hV hMd hS hZ hSl e0 e1 e2 hcz hzl
  go_enter Tryd.func7, Tryd.ntmps7
  go_wp2_with fail
  ((with_reducible refine HS.out.mono ?_))
  rintro e w1 ⟨rfl, hb⟩
  have HB1 := Lib.hid hb
  clear hb HS
  go_wp2_with fail
  ((with_reducible refine (HMd.out.call w1 HB1.out).mono ?_))
  rintro e w2 ⟨p, g, rfl, hA, hb, hgg, hpp⟩
  have HA2 := Lib.hid hA
  have HB2 := Lib.hid (bstep HB1.out hb)
  clear hA hb
  have hC := CR.out p g w2 HA2.out
  have HC := Lib.hid hC
  clear hC
  go_wp2_with fail
  ((with_reducible refine HC.out.mono ?_))
  rintro e w3 ⟨rfl, hb⟩
  have HB3 := Lib.hid (bstep HB2.out hb)
  have HA3 := Lib.hid (HA2.out.below hb)
  clear hb HC
  have hC := CC.out p g w3 HA3.out
  have HC := Lib.hid hC
  clear hC
  go_wp2_with fail
  ((with_reducible refine HC.out.mono ?_))
  rintro e w4 ⟨rfl, hb⟩
  have HB4 := Lib.hid (bstep HB3.out hb)
  have HA4 := Lib.hid (HA3.out.below hb)
  clear hb HC
  have hC := CZ.out p g w4 HA4.out
  have HC := Lib.hid hC
  clear hC
  go_wp2_with fail
  ((with_reducible refine HC.out.mono ?_))
  rintro e w5 ⟨rfl, hA, hU⟩
  have HB5 := Lib.hid (Upd.below HB4.out hU HB4.out.size (Nat.le_trans HB1.out.size hgg))
  have HA5 := Lib.hid hA
  clear hA hU HC
  go_wp2
  go_loop [16, 17] (fun m j => ∃ x : Nat, x ≤ k ∧ j = .int .i64 (x : Int) ∧ m = .int .i64 (cntB (S.data.toList.take x) : Int)) (fun _ j => k - (intOf j).toNat)
  case atStart => exact ⟨0, Nat.zero_le _, rfl, rfl⟩
  case round =>
    obtain ⟨x, hx, rfl, rfl⟩ := hrel
    have hd := cnt_le (S.data.toList.take x)
    have hll : (S.data.toList.take x).length ≤ x := List.length_take_le _ _
    by_cases hlt : x < k
    · have hxs : x < S.size := by omega
      have hsn := cnt_snoc (S.data.toList.take x) S[x]
      have hts := take_snocB S x hxs
      have HSn := Lib.hid (show cntB (S.data.toList.take (x + 1)) = cntB (S.data.toList.take x) + if S[x].toNat = 0 then 0 else 1 by rw [hts]; exact hsn)
      clear hsn hts
      by_cases hz : S[x].toNat = 0
      · have hzb : ((S[x].toNat : Int) != 0) = false := by simpa using hz
        rw [if_pos hz] at HSn
        clear hz
        go_wp2
        go_round
        case rel => exact ⟨x + 1, by omega, by go_num, by rw [HSn.out]; rfl⟩
        case measure => simp [intOf]; omega
      · have hzb : ((S[x].toNat : Int) != 0) = true := by simpa using hz
        rw [if_neg hz] at HSn
        clear hz
        go_wp2
        go_round
        case rel => exact ⟨x + 1, by omega, by go_num, by rw [HSn.out]; go_num⟩
        case measure => simp [intOf]; omega
    · obtain rfl : x = k := by omega
      have e5 : S.data.toList.take x = S.data.toList := List.take_of_length_le (by rw [show S.data.toList.length = S.size from rfl]; omega)
      rw [e5, E1.out]
      have hC := CR2.out p g w5 HA5.out
      have HC := Lib.hid hC
      clear hC
      go_wp2_with fail
      ((with_reducible refine HC.out.mono ?_))
      rintro e w6 ⟨rfl, hb⟩
      have HB6 := Lib.hid (bstep HB5.out hb)
      have HA6 := Lib.hid (HA5.out.below hb)
      clear hb HC
      have HA6' := Lib.hid (HA6.out.al (.cells (zbytes x) 5))
      have HB6' := Lib.hid (HB6.out.alloc HB6.out.size (.cells (zbytes x) 5))
      go_wp2_with fail
      ((with_reducible refine (CC2.out p g _ HA6'.out).mono ?_))
      rintro e w7 ⟨rfl, hb⟩
      have HB7 := Lib.hid (bstep HB6'.out hb)
      clear hb
      go_wp2
      go_ret
      exact ⟨rfl, HB7.out⟩

theorem lawArenaZeroes (V : VR) (b : Int) (q : Option Addr) (n cap : Nat) (a k : Int) (w : World) (hV : RV w V) (hb : InI b) (hl : n ≤ cap) (hm : cap ≤ maxLen) (hI : ∃ xs, OL w q xs ∧ xs.length = n) (ha : InI a) (_hk : InI k) :
    Calls Tryd.prog 7 #[.int .i64 b, .slice q n cap, .int .i64 a, .int .i64 k] w fun e w' => e = .returned (.bool true) ∧ Below w.heap.size w w' := by
  by_cases h : b < 1 ∨ 32 < b
  · exact lawArenaZeroes_bad V b q n cap a k w hV hb h
  · obtain ⟨b, rfl⟩ : ∃ c : Nat, b = c := ⟨b.toNat, by omega⟩
    obtain ⟨bs, hbl, hMd⟩ := made_at V b q n cap w hV (by omega) (by omega) hI hl hm
    by_cases h2 : okB bs.length a k 1
    · unfold okB at h2
      obtain ⟨i, rfl⟩ : ∃ c : Nat, a = c := ⟨a.toNat, by omega⟩
      obtain ⟨k, rfl⟩ : ∃ c : Nat, k = c := ⟨k.toNat, by omega⟩
      exact lawArenaZeroes_ok V b q n cap bs i k w hV hMd (by omega) (by omega) (by omega)
    · exact lawArenaZeroes_no V b q n cap bs a k w hV hMd ha h2 (by omega)
end Go.Proofs.YtchaojdjgbeepaaDoor
