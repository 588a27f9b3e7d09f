/-
  selionlaw06.HeadBack, for every input.
-/
import Derived.Test.YtmikkbhillkpkaaDoorHbC
import Derived.Test.YtmikkbhillkpkaaDoorArJ
namespace Go.Proofs.YtmikkbhillkpkaaDoor
open Go.RowKit Go.Lib Go.Shelf
attribute [local go_sem] Oper.semAt_some
set_option linter.unusedSimpArgs false
set_option linter.unusedVariables false

theorem byteN_nn (v j : Nat) : (byteN v j).toNat = v / 256 ^ j % 256 := by
  unfold byteN
  rw [UInt8.toNat_ofNat']
  exact Nat.mod_eq_of_lt (Nat.mod_lt _ (by decide))
theorem decL_hd8 {K L C E : Nat} (hK : 1 ≤ K ∧ K ≤ 60) (hL : L ≤ 40000) (hC : 1 ≤ C ∧ C ≤ 3) (hE : E ≤ 255) : decL (hd8 K L C E) = some (mkN K L C E) := by
  have e : hd8 K L C E = [181, byteN K 0, byteN C 0, byteN E 0, byteN L 0, byteN L 1, byteN L 2, xorL (hd7 K L C E)] := rfl
  have r0 : rdN (byteN K 0) (byteN C 0) (byteN E 0) (byteN L 0) (byteN L 1) (byteN L 2) 0 = K := by simp only [rdN, byteN_nn, Nat.pow_zero, Nat.div_one]; omega
  have r1 : rdN (byteN K 0) (byteN C 0) (byteN E 0) (byteN L 0) (byteN L 1) (byteN L 2) 1 = C := by simp only [rdN, byteN_nn, Nat.pow_zero, Nat.div_one]; omega
  have r2 : rdN (byteN K 0) (byteN C 0) (byteN E 0) (byteN L 0) (byteN L 1) (byteN L 2) 2 = E := by simp only [rdN, byteN_nn, Nat.pow_zero, Nat.div_one]; omega
  have r3 : rdN (byteN K 0) (byteN C 0) (byteN E 0) (byteN L 0) (byteN L 1) (byteN L 2) 3 = L := by simp only [rdN, byteN_nn, Nat.pow_zero, Nat.div_one, Nat.pow_one, show 256 ^ 2 = 65536 by decide]; omega
  have h : decL [181, byteN K 0, byteN C 0, byteN E 0, byteN L 0, byteN L 1, byteN L 2, xorL (hd7 K L C E)] = some (mkN K L C E) := by
    unfold decL
    simp only [r0, r1, r2, r3]
    rw [if_pos ⟨rightB_in hK hL hC hE, e.symm⟩]
  rw [e]
  exact h
theorem zer_cut (N i : Nat) (h : i + 8 ≤ N) : ((zer N).drop i).take 8 = [0, 0, 0, 0, 0, 0, 0, 0] := by
  unfold zer
  rw [List.drop_replicate, List.take_replicate, Nat.min_eq_left (by omega)]
  rfl
theorem wrL_mid8 (bs : List UInt8) (i : Nat) (l : List UInt8) (h : i ≤ bs.length) : ((wrL bs i l).drop i).take l.length = l := by
  have h1 : (bs.take i).length = i := by simp; omega
  rw [wrL, List.append_assoc, List.drop_append_of_le_length (by omega), List.drop_eq_nil_of_le (by omega)]
  simp
theorem wrL_mid_hd (N i K L C E : Nat) (h : i + 8 ≤ N) : ((wrL (zer N) i (hd8 K L C E)).drop i).take 8 = hd8 K L C E := by
  have h1 := wrL_mid8 (zer N) i (hd8 K L C E) (by rw [zer_len]; omega)
  rwa [hd8_len] at h1
theorem wrL_hd_len (N i K L C E : Nat) (h : i + 8 ≤ N) : (wrL (zer N) i (hd8 K L C E)).length = N := by
  rw [wrL_len _ _ _ (by rw [hd8_len, zer_len]; exact h), zer_len]
/-- What put leaves of what was there: one block is written. -/
def PutPost (g : Nat) (w w' : World) : Prop := ∃ u, Below w.heap.size w u ∧ Upd g u w'
theorem PutPost.below {g B : Nat} {a b c : World} (h : Below B a b) (k : PutPost g b c) (hB : B ≤ b.heap.size) (hg : B ≤ g) : Below B a c := by
  obtain ⟨u, h1, h2⟩ := k
  exact h2.below (h.trans (h1.mono hB)) (Nat.le_trans hB h1.size) hg
theorem PutPost.blk {g B : Nat} {w w' : World} {cs : Array Value} {t : TypeId} (k : PutPost g w w') (h : Blk w B cs t) (hn : B ≠ g) : Blk w' B cs t := by
  obtain ⟨u, h1, h2⟩ := k
  exact h2.blk (h.below' h1) hn
theorem hput_z {K L C E : Nat} (hK : 1 ≤ K ∧ K ≤ 60) (hL : L ≤ 40000) (hC : 1 ≤ C ∧ C ≤ 3) (hE : E ≤ 255) (p g N i : Nat) (h8 : i % 8 = 0) (hi : i + 8 ≤ N) (w : World) (V : HR) (hV : HV w V) (hA : Ar w p g (zer N)) :
    Calls Tryd.prog 22 #[.pointer (some ⟨p, 0, none⟩), .int .i64 (i : Int), .agg (mkA (mkN K L C E))] w fun e w' => e = .returned (.int .i64 0) ∧ Ar w' p g (wrL (zer N) i (hd8 K L C E)) ∧ PutPost g w w' := by
  refine hput_new p g _ i _ _ _ _ ⟨(hd8 K L C E).toArray⟩ ⟨#[0, 0, 0, 0, 0, 0, 0, 0]⟩ (fun W V h => henc_yes K L C E hK hL hC hE W V h) w V hV ?_ ?_ ?_
  · intro W hW
    have h := hload_ok p g (zer N) i W (hA.below hW) h8 (by rw [zer_len]; exact hi)
    rw [zer_cut N i hi] at h
    exact h
  · intro W hW
    have h := hdecode_any ⟨#[0, 0, 0, 0, 0, 0, 0, 0]⟩ W V (hV.below hW)
    rw [show decL (⟨#[0, 0, 0, 0, 0, 0, 0, 0]⟩ : ByteArray).data.toList = none by rfl] at h
    exact h
  · intro W hW
    exact write_ok p g (zer N) i ⟨(hd8 K L C E).toArray⟩ W (hA.below hW) (by rw [zer_len]; exact (by rw [show (⟨(hd8 K L C E).toArray⟩ : ByteArray).size = 8 from hd8_len K L C E]; exact hi))
theorem hget_z {K L C E : Nat} (hK : 1 ≤ K ∧ K ≤ 60) (hL : L ≤ 40000) (hC : 1 ≤ C ∧ C ≤ 3) (hE : E ≤ 255) (p g N i : Nat) (h8 : i % 8 = 0) (hi : i + 8 ≤ N) (w : World) (V : HR) (hV : HV w V) (hA : Ar w p g (wrL (zer N) i (hd8 K L C E))) :
    Calls Tryd.prog 21 #[.pointer (some ⟨p, 0, none⟩), .int .i64 (i : Int)] w fun e w' => e = .returned (.tuple #[.agg (mkA (mkN K L C E)), .int .i64 0]) ∧ Below w.heap.size w w' := by
  refine hget_ok p i _ _ _ _ 0 ⟨(hd8 K L C E).toArray⟩ w ?_ ?_
  · intro W hW
    have h := hload_ok p g _ i W (hA.below hW) h8 (by rw [wrL_hd_len N i K L C E hi]; exact hi)
    rw [wrL_mid_hd N i K L C E hi] at h
    exact h
  · intro W hW
    exact hDec_some ⟨(hd8 K L C E).toArray⟩ _ (decL_hd8 hK hL hC hE) W V (hV.below hW)
theorem hread_z (K L C E p g N i : Nat) (hi : i + 8 ≤ N) (w : World) (hA : Ar w p g (wrL (zer N) i (hd8 K L C E))) :
    Calls Tryd.prog 27 #[.pointer (some ⟨p, 0, none⟩), .int .i64 (i : Int), .int .i64 8] w fun e w' => e = .returned (.tuple #[.string ⟨(hd8 K L C E).toArray⟩, .int .i64 0]) ∧ Below w.heap.size w w' := by
  have h := read_ok p g _ i 8 w hA (by rw [wrL_hd_len N i K L C E hi]; exact hi)
  rw [wrL_mid_hd N i K L C E hi] at h
  exact h
theorem hcount_z (p g N : Nat) (h0 : 0 < N) (w : World) (hA : Ar w p g (zer N)) :
    Calls Tryd.prog 29 #[.pointer (some ⟨p, 0, none⟩)] w fun e w' => e = .returned (.int .i64 0) ∧ Below w.heap.size w w' := by
  have h := count_ok p g (zer N) w hA (by rw [zer_len]; exact h0)
  rw [cntB_zer] at h
  exact h
set_option maxRecDepth 100000 in
set_option maxHeartbeats 2000000 in
theorem back_bad_n (a0 a1 a2 a3 n f : Int) (w : World) (V : HR) (hV : HV w V) (hE : ∀ (W : World), Below w.heap.size w W → Calls Tryd.prog 10 #[.agg #[.int .i64 a0, .int .i64 a1, .int .i64 a2, .int .i64 a3]] W fun e w' => e = .returned (.tuple #[.string ⟨#[]⟩, .int .i64 60]) ∧ Below W.heap.size W w') (hD : ∀ (W : World), Below w.heap.size w W → Calls Tryd.prog 12 #[.string ⟨#[]⟩] W fun e w' => e = .returned (.tuple #[.agg #[.int .i64 0, .int .i64 0, .int .i64 0, .int .i64 0], .int .i64 60]) ∧ Below W.heap.size W w') (hN : ∀ (W : World), Below w.heap.size w W → Calls Tryd.prog 19 #[.int .i64 n] W fun e w' => e = .returned (.tuple #[.pointer none, .int .i64 2]) ∧ Below W.heap.size W w') : Calls Tryd.prog 8 #[.int .i64 n, .int .i64 f, .agg #[.int .i64 a0, .int .i64 a1, .int .i64 a2, .int .i64 a3]] w fun e w' => e = .returned (.bool true) ∧ Below w.heap.size w w' := by
  have HVV := Lib.hid hV
  have HE := Lib.hid hE
  have HD := Lib.hid hD
  have HN := Lib.hid hN
  have HB := Lib.hid (Below.refl w.heap.size w)
  clear hV hE hD hN
  go_enter Tryd.func8, Tryd.ntmps8
  have HB := Lib.hid (bel_al HB.out (.cells #[.int .i64 a0, .int .i64 a1, .int .i64 a2, .int .i64 a3] 23))
  have KA := Lib.hid (Blk.new w #[.int .i64 a0, .int .i64 a1, .int .i64 a2, .int .i64 a3] 23)
  go_wp2_with fail
  generalize w.alloc (.cells #[.int .i64 a0, .int .i64 a1, .int .i64 a2, .int .i64 a3] 23) = v1 at HB KA ⊢
  ((with_reducible refine (shown06 v1 V (HVV.out.below HB.out)).mono ?_))
  rintro e u2 ⟨rfl, hb⟩
  have HB := Lib.hid (bstep HB.out hb)
  have KA := Lib.hid (KA.out.below' hb)
  clear hb
  have ltKA := KA.out.lt
  have cKA0 : u2.cell? ⟨w.heap.size, 0, none⟩ = some (.int .i64 a0) := KA.out.cell rfl
  have cKA1 : u2.cell? ⟨w.heap.size, 1, none⟩ = some (.int .i64 a1) := KA.out.cell rfl
  have cKA2 : u2.cell? ⟨w.heap.size, 2, none⟩ = some (.int .i64 a2) := KA.out.cell rfl
  have cKA3 : u2.cell? ⟨w.heap.size, 3, none⟩ = some (.int .i64 a3) := KA.out.cell rfl
  go_wp2_with fail
  clear ltKA cKA0 cKA1 cKA2 cKA3
  ((with_reducible refine (HE.out u2 HB.out).mono ?_))
  rintro e u3 ⟨rfl, hb⟩
  have HB := Lib.hid (bstep HB.out hb)
  have KA := Lib.hid (KA.out.below' hb)
  clear hb
  go_wp2_with fail
  ((with_reducible refine (HD.out u3 HB.out).mono ?_))
  rintro e u4 ⟨rfl, hb⟩
  have HB := Lib.hid (bstep HB.out hb)
  have KA := Lib.hid (KA.out.below' hb)
  clear hb
  have ltKA := KA.out.lt
  have cKA0 : u4.cell? ⟨w.heap.size, 0, none⟩ = some (.int .i64 a0) := KA.out.cell rfl
  have cKA1 : u4.cell? ⟨w.heap.size, 1, none⟩ = some (.int .i64 a1) := KA.out.cell rfl
  have cKA2 : u4.cell? ⟨w.heap.size, 2, none⟩ = some (.int .i64 a2) := KA.out.cell rfl
  have cKA3 : u4.cell? ⟨w.heap.size, 3, none⟩ = some (.int .i64 a3) := KA.out.cell rfl
  have HB := Lib.hid (bel_al HB.out (.cells #[.int .i64 0, .int .i64 0, .int .i64 0, .int .i64 0] 23))
  have KA := Lib.hid (KA.out.alloc (.cells #[.int .i64 0, .int .i64 0, .int .i64 0, .int .i64 0] 23))
  have KN := Lib.hid (Blk.new u4 #[.int .i64 0, .int .i64 0, .int .i64 0, .int .i64 0] 23)
  go_wp2_with fail
  generalize u4.alloc (.cells #[.int .i64 0, .int .i64 0, .int .i64 0, .int .i64 0] 23) = v5 at HB KA KN ⊢
  clear ltKA cKA0 cKA1 cKA2 cKA3
  ((with_reducible refine (HN.out v5 HB.out).mono ?_))
  rintro e u6 ⟨rfl, hb⟩
  have HB := Lib.hid (bstep HB.out hb)
  have KA := Lib.hid (KA.out.below' hb)
  have KN := Lib.hid (KN.out.below' hb)
  clear hb
  go_wp2
  go_ret
  exact ⟨rfl, HB.out⟩
set_option maxRecDepth 100000 in
set_option maxHeartbeats 2000000 in
theorem back_bad_y (a0 a1 a2 a3 n f : Int) (S : ByteArray) (hS : S.size = 8) (w : World) (V : HR) (hV : HV w V) (hE : ∀ (W : World), Below w.heap.size w W → Calls Tryd.prog 10 #[.agg #[.int .i64 a0, .int .i64 a1, .int .i64 a2, .int .i64 a3]] W fun e w' => e = .returned (.tuple #[.string S, .int .i64 0]) ∧ Below W.heap.size W w') (hD : ∀ (W : World), Below w.heap.size w W → Calls Tryd.prog 12 #[.string S] W fun e w' => e = .returned (.tuple #[.agg #[.int .i64 a0, .int .i64 a1, .int .i64 a2, .int .i64 a3], .int .i64 0]) ∧ Below W.heap.size W w') (hN : ∀ (W : World), Below w.heap.size w W → Calls Tryd.prog 19 #[.int .i64 n] W fun e w' => e = .returned (.tuple #[.pointer none, .int .i64 2]) ∧ Below W.heap.size W w') : Calls Tryd.prog 8 #[.int .i64 n, .int .i64 f, .agg #[.int .i64 a0, .int .i64 a1, .int .i64 a2, .int .i64 a3]] w fun e w' => e = .returned (.bool true) ∧ Below w.heap.size w w' := by
  have HVV := Lib.hid hV
  have HE := Lib.hid hE
  have HD := Lib.hid hD
  have HN := Lib.hid hN
  have d0 : ((S.size : Int) != 8) = false := by simp; omega
  have HB := Lib.hid (Below.refl w.heap.size w)
  clear hV hE hD hN hS
  go_enter Tryd.func8, Tryd.ntmps8
  have HB := Lib.hid (bel_al HB.out (.cells #[.int .i64 a0, .int .i64 a1, .int .i64 a2, .int .i64 a3] 23))
  have KA := Lib.hid (Blk.new w #[.int .i64 a0, .int .i64 a1, .int .i64 a2, .int .i64 a3] 23)
  go_wp2_with fail
  generalize w.alloc (.cells #[.int .i64 a0, .int .i64 a1, .int .i64 a2, .int .i64 a3] 23) = v1 at HB KA ⊢
  ((with_reducible refine (shown06 v1 V (HVV.out.below HB.out)).mono ?_))
  rintro e u2 ⟨rfl, hb⟩
  have HB := Lib.hid (bstep HB.out hb)
  have KA := Lib.hid (KA.out.below' hb)
  clear hb
  have ltKA := KA.out.lt
  have cKA0 : u2.cell? ⟨w.heap.size, 0, none⟩ = some (.int .i64 a0) := KA.out.cell rfl
  have cKA1 : u2.cell? ⟨w.heap.size, 1, none⟩ = some (.int .i64 a1) := KA.out.cell rfl
  have cKA2 : u2.cell? ⟨w.heap.size, 2, none⟩ = some (.int .i64 a2) := KA.out.cell rfl
  have cKA3 : u2.cell? ⟨w.heap.size, 3, none⟩ = some (.int .i64 a3) := KA.out.cell rfl
  go_wp2_with fail
  clear ltKA cKA0 cKA1 cKA2 cKA3
  ((with_reducible refine (HE.out u2 HB.out).mono ?_))
  rintro e u3 ⟨rfl, hb⟩
  have HB := Lib.hid (bstep HB.out hb)
  have KA := Lib.hid (KA.out.below' hb)
  clear hb
  go_wp2_with fail
  ((with_reducible refine (HD.out u3 HB.out).mono ?_))
  rintro e u4 ⟨rfl, hb⟩
  have HB := Lib.hid (bstep HB.out hb)
  have KA := Lib.hid (KA.out.below' hb)
  clear hb
  have ltKA := KA.out.lt
  have cKA0 : u4.cell? ⟨w.heap.size, 0, none⟩ = some (.int .i64 a0) := KA.out.cell rfl
  have cKA1 : u4.cell? ⟨w.heap.size, 1, none⟩ = some (.int .i64 a1) := KA.out.cell rfl
  have cKA2 : u4.cell? ⟨w.heap.size, 2, none⟩ = some (.int .i64 a2) := KA.out.cell rfl
  have cKA3 : u4.cell? ⟨w.heap.size, 3, none⟩ = some (.int .i64 a3) := KA.out.cell rfl
  have HB := Lib.hid (bel_al HB.out (.cells #[.int .i64 a0, .int .i64 a1, .int .i64 a2, .int .i64 a3] 23))
  have KA := Lib.hid (KA.out.alloc (.cells #[.int .i64 a0, .int .i64 a1, .int .i64 a2, .int .i64 a3] 23))
  have KN := Lib.hid (Blk.new u4 #[.int .i64 a0, .int .i64 a1, .int .i64 a2, .int .i64 a3] 23)
  go_wp2_with fail
  generalize u4.alloc (.cells #[.int .i64 a0, .int .i64 a1, .int .i64 a2, .int .i64 a3] 23) = v5 at HB KA KN ⊢
  clear ltKA cKA0 cKA1 cKA2 cKA3
  ((with_reducible refine (HN.out v5 HB.out).mono ?_))
  rintro e u6 ⟨rfl, hb⟩
  have HB := Lib.hid (bstep HB.out hb)
  have KA := Lib.hid (KA.out.below' hb)
  have KN := Lib.hid (KN.out.below' hb)
  clear hb
  go_wp2
  go_ret
  exact ⟨rfl, HB.out⟩
set_option maxRecDepth 100000 in
set_option maxHeartbeats 2000000 in
theorem back_no_n (a0 a1 a2 a3 n f : Int) (bs : List UInt8) (w : World) (V : HR) (hV : HV w V) (hE : ∀ (W : World), Below w.heap.size w W → Calls Tryd.prog 10 #[.agg #[.int .i64 a0, .int .i64 a1, .int .i64 a2, .int .i64 a3]] W fun e w' => e = .returned (.tuple #[.string ⟨#[]⟩, .int .i64 60]) ∧ Below W.heap.size W w') (hD : ∀ (W : World), Below w.heap.size w W → Calls Tryd.prog 12 #[.string ⟨#[]⟩] W fun e w' => e = .returned (.tuple #[.agg #[.int .i64 0, .int .i64 0, .int .i64 0, .int .i64 0], .int .i64 60]) ∧ Below W.heap.size W w') (hN : ∀ (W : World), Below w.heap.size w W → Calls Tryd.prog 19 #[.int .i64 n] W fun e w' => ∃ p g, e = .returned (.tuple #[.pointer (some ⟨p, 0, none⟩), .int .i64 0]) ∧ Ar w' p g bs ∧ Below W.heap.size W w' ∧ W.heap.size ≤ g ∧ W.heap.size ≤ p) (hP : ∀ (p g : Nat) (W : World), Below w.heap.size w W → Ar W p g bs → Calls Tryd.prog 22 #[.pointer (some ⟨p, 0, none⟩), .int .i64 f, .agg #[.int .i64 a0, .int .i64 a1, .int .i64 a2, .int .i64 a3]] W fun e w' => e = .returned (.int .i64 60) ∧ Below W.heap.size W w') (hG : ∀ (p g : Nat) (W : World), Below w.heap.size w W → Ar W p g bs → Calls Tryd.prog 21 #[.pointer (some ⟨p, 0, none⟩), .int .i64 f] W fun e w' => ∃ b0 b1 b2 b3 D : Int, e = .returned (.tuple #[.agg #[.int .i64 b0, .int .i64 b1, .int .i64 b2, .int .i64 b3], .int .i64 D]) ∧ Below W.heap.size W w') (hR : ∀ (W : World), Below w.heap.size w W → Calls Tryd.prog 15 #[.agg #[.int .i64 a0, .int .i64 a1, .int .i64 a2, .int .i64 a3]] W fun e w' => e = .returned (.bool false) ∧ Below W.heap.size W w') (hC : ∀ (p g : Nat) (W : World), Below w.heap.size w W → Ar W p g bs → Calls Tryd.prog 29 #[.pointer (some ⟨p, 0, none⟩)] W fun e w' => e = .returned (.int .i64 0) ∧ Below W.heap.size W w') : Calls Tryd.prog 8 #[.int .i64 n, .int .i64 f, .agg #[.int .i64 a0, .int .i64 a1, .int .i64 a2, .int .i64 a3]] w fun e w' => e = .returned (.bool true) ∧ Below w.heap.size w w' := by
  have HVV := Lib.hid hV
  have HE := Lib.hid hE
  have HD := Lib.hid hD
  have HN := Lib.hid hN
  have HP := Lib.hid hP
  have HG := Lib.hid hG
  have HR := Lib.hid hR
  have HC := Lib.hid hC
  have HB := Lib.hid (Below.refl w.heap.size w)
  clear hV hE hD hN hP hG hR hC
  go_enter Tryd.func8, Tryd.ntmps8
  have HB := Lib.hid (bel_al HB.out (.cells #[.int .i64 a0, .int .i64 a1, .int .i64 a2, .int .i64 a3] 23))
  have KA := Lib.hid (Blk.new w #[.int .i64 a0, .int .i64 a1, .int .i64 a2, .int .i64 a3] 23)
  go_wp2_with fail
  generalize w.alloc (.cells #[.int .i64 a0, .int .i64 a1, .int .i64 a2, .int .i64 a3] 23) = v1 at HB KA ⊢
  ((with_reducible refine (shown06 v1 V (HVV.out.below HB.out)).mono ?_))
  rintro e u2 ⟨rfl, hb⟩
  have HB := Lib.hid (bstep HB.out hb)
  have KA := Lib.hid (KA.out.below' hb)
  clear hb
  have ltKA := KA.out.lt
  have cKA0 : u2.cell? ⟨w.heap.size, 0, none⟩ = some (.int .i64 a0) := KA.out.cell rfl
  have cKA1 : u2.cell? ⟨w.heap.size, 1, none⟩ = some (.int .i64 a1) := KA.out.cell rfl
  have cKA2 : u2.cell? ⟨w.heap.size, 2, none⟩ = some (.int .i64 a2) := KA.out.cell rfl
  have cKA3 : u2.cell? ⟨w.heap.size, 3, none⟩ = some (.int .i64 a3) := KA.out.cell rfl
  go_wp2_with fail
  clear ltKA cKA0 cKA1 cKA2 cKA3
  ((with_reducible refine (HE.out u2 HB.out).mono ?_))
  rintro e u3 ⟨rfl, hb⟩
  have HB := Lib.hid (bstep HB.out hb)
  have KA := Lib.hid (KA.out.below' hb)
  clear hb
  go_wp2_with fail
  ((with_reducible refine (HD.out u3 HB.out).mono ?_))
  rintro e u4 ⟨rfl, hb⟩
  have HB := Lib.hid (bstep HB.out hb)
  have KA := Lib.hid (KA.out.below' hb)
  clear hb
  have ltKA := KA.out.lt
  have cKA0 : u4.cell? ⟨w.heap.size, 0, none⟩ = some (.int .i64 a0) := KA.out.cell rfl
  have cKA1 : u4.cell? ⟨w.heap.size, 1, none⟩ = some (.int .i64 a1) := KA.out.cell rfl
  have cKA2 : u4.cell? ⟨w.heap.size, 2, none⟩ = some (.int .i64 a2) := KA.out.cell rfl
  have cKA3 : u4.cell? ⟨w.heap.size, 3, none⟩ = some (.int .i64 a3) := KA.out.cell rfl
  have HB := Lib.hid (bel_al HB.out (.cells #[.int .i64 0, .int .i64 0, .int .i64 0, .int .i64 0] 23))
  have KA := Lib.hid (KA.out.alloc (.cells #[.int .i64 0, .int .i64 0, .int .i64 0, .int .i64 0] 23))
  have KN := Lib.hid (Blk.new u4 #[.int .i64 0, .int .i64 0, .int .i64 0, .int .i64 0] 23)
  go_wp2_with fail
  generalize u4.alloc (.cells #[.int .i64 0, .int .i64 0, .int .i64 0, .int .i64 0] 23) = v5 at HB KA KN ⊢
  clear ltKA cKA0 cKA1 cKA2 cKA3
  ((with_reducible refine (HN.out v5 HB.out).mono ?_))
  rintro e u6 ⟨p, g, rfl, hA, hb, hg, hp⟩
  have hgA : w.heap.size ≤ g := Nat.le_trans HB.out.size hg
  have hKA : w.heap.size ≠ g := by have := KA.out.lt; omega
  have HA := Lib.hid hA
  have HB := Lib.hid (bstep HB.out hb)
  have KA := Lib.hid (KA.out.below' hb)
  clear hb hA hg hp KN
  have ltKA := KA.out.lt
  have cKA0 : u6.cell? ⟨w.heap.size, 0, none⟩ = some (.int .i64 a0) := KA.out.cell rfl
  have cKA1 : u6.cell? ⟨w.heap.size, 1, none⟩ = some (.int .i64 a1) := KA.out.cell rfl
  have cKA2 : u6.cell? ⟨w.heap.size, 2, none⟩ = some (.int .i64 a2) := KA.out.cell rfl
  have cKA3 : u6.cell? ⟨w.heap.size, 3, none⟩ = some (.int .i64 a3) := KA.out.cell rfl
  go_wp2_with fail
  clear ltKA cKA0 cKA1 cKA2 cKA3
  ((with_reducible refine (HP.out p g u6 HB.out HA.out).mono ?_))
  rintro e u7 ⟨rfl, hb⟩
  have HB := Lib.hid (bstep HB.out hb)
  have KA := Lib.hid (KA.out.below' hb)
  have HA := Lib.hid (HA.out.below hb)
  clear hb
  go_wp2_with fail
  ((with_reducible refine (HG.out p g u7 HB.out HA.out).mono ?_))
  rintro e u8 ⟨b0, b1, b2, b3, D, rfl, hb⟩
  have HB := Lib.hid (bstep HB.out hb)
  have KA := Lib.hid (KA.out.below' hb)
  have HA := Lib.hid (HA.out.below hb)
  clear hb
  have hAo := Lib.hid (HA.out.below ((Below.refl _ u8).alloc (Nat.le_refl _) (.cells #[.int .i64 b0, .int .i64 b1, .int .i64 b2, .int .i64 b3] 23)))
  have ltKA := KA.out.lt
  have cKA0 : u8.cell? ⟨w.heap.size, 0, none⟩ = some (.int .i64 a0) := KA.out.cell rfl
  have cKA1 : u8.cell? ⟨w.heap.size, 1, none⟩ = some (.int .i64 a1) := KA.out.cell rfl
  have cKA2 : u8.cell? ⟨w.heap.size, 2, none⟩ = some (.int .i64 a2) := KA.out.cell rfl
  have cKA3 : u8.cell? ⟨w.heap.size, 3, none⟩ = some (.int .i64 a3) := KA.out.cell rfl
  have HB := Lib.hid (bel_al HB.out (.cells #[.int .i64 b0, .int .i64 b1, .int .i64 b2, .int .i64 b3] 23))
  have KA := Lib.hid (KA.out.alloc (.cells #[.int .i64 b0, .int .i64 b1, .int .i64 b2, .int .i64 b3] 23))
  have KO := Lib.hid (Blk.new u8 #[.int .i64 b0, .int .i64 b1, .int .i64 b2, .int .i64 b3] 23)
  go_wp2_with fail
  generalize u8.alloc (.cells #[.int .i64 b0, .int .i64 b1, .int .i64 b2, .int .i64 b3] 23) = v9 at hAo HB KA KO ⊢
  clear ltKA cKA0 cKA1 cKA2 cKA3
  ((with_reducible refine (HR.out v9 HB.out).mono ?_))
  rintro e u10 ⟨rfl, hb⟩
  have HB := Lib.hid (bstep HB.out hb)
  have HA := Lib.hid (hAo.out.below hb)
  clear hb hAo
  go_wp2_with fail
  ((with_reducible refine (HC.out p g u10 HB.out HA.out).mono ?_))
  rintro e u11 ⟨rfl, hb⟩
  have HB := Lib.hid (bstep HB.out hb)
  clear hb
  go_wp2
  go_ret
  exact ⟨rfl, HB.out⟩
set_option maxRecDepth 100000 in
set_option maxHeartbeats 2000000 in
theorem back_no_y (a0 a1 a2 a3 n f : Int) (S : ByteArray) (hS : S.size = 8) (bs : List UInt8) (w : World) (V : HR) (hV : HV w V) (hE : ∀ (W : World), Below w.heap.size w W → Calls Tryd.prog 10 #[.agg #[.int .i64 a0, .int .i64 a1, .int .i64 a2, .int .i64 a3]] W fun e w' => e = .returned (.tuple #[.string S, .int .i64 0]) ∧ Below W.heap.size W w') (hD : ∀ (W : World), Below w.heap.size w W → Calls Tryd.prog 12 #[.string S] W fun e w' => e = .returned (.tuple #[.agg #[.int .i64 a0, .int .i64 a1, .int .i64 a2, .int .i64 a3], .int .i64 0]) ∧ Below W.heap.size W w') (hN : ∀ (W : World), Below w.heap.size w W → Calls Tryd.prog 19 #[.int .i64 n] W fun e w' => ∃ p g, e = .returned (.tuple #[.pointer (some ⟨p, 0, none⟩), .int .i64 0]) ∧ Ar w' p g bs ∧ Below W.heap.size W w' ∧ W.heap.size ≤ g ∧ W.heap.size ≤ p) (hP : ∀ (p g : Nat) (W : World), Below w.heap.size w W → Ar W p g bs → Calls Tryd.prog 22 #[.pointer (some ⟨p, 0, none⟩), .int .i64 f, .agg #[.int .i64 a0, .int .i64 a1, .int .i64 a2, .int .i64 a3]] W fun e w' => e = .returned (.int .i64 10) ∧ Below W.heap.size W w') (hG : ∀ (p g : Nat) (W : World), Below w.heap.size w W → Ar W p g bs → Calls Tryd.prog 21 #[.pointer (some ⟨p, 0, none⟩), .int .i64 f] W fun e w' => ∃ b0 b1 b2 b3 D : Int, e = .returned (.tuple #[.agg #[.int .i64 b0, .int .i64 b1, .int .i64 b2, .int .i64 b3], .int .i64 D]) ∧ Below W.heap.size W w') (hR : ∀ (W : World), Below w.heap.size w W → Calls Tryd.prog 15 #[.agg #[.int .i64 a0, .int .i64 a1, .int .i64 a2, .int .i64 a3]] W fun e w' => e = .returned (.bool true) ∧ Below W.heap.size W w') (hC : ∀ (p g : Nat) (W : World), Below w.heap.size w W → Ar W p g bs → Calls Tryd.prog 29 #[.pointer (some ⟨p, 0, none⟩)] W fun e w' => e = .returned (.int .i64 0) ∧ Below W.heap.size W w') : Calls Tryd.prog 8 #[.int .i64 n, .int .i64 f, .agg #[.int .i64 a0, .int .i64 a1, .int .i64 a2, .int .i64 a3]] w fun e w' => e = .returned (.bool true) ∧ Below w.heap.size w w' := by
  have HVV := Lib.hid hV
  have HE := Lib.hid hE
  have HD := Lib.hid hD
  have HN := Lib.hid hN
  have HP := Lib.hid hP
  have HG := Lib.hid hG
  have HR := Lib.hid hR
  have HC := Lib.hid hC
  have d0 : ((S.size : Int) != 8) = false := by simp; omega
  have HB := Lib.hid (Below.refl w.heap.size w)
  clear hV hE hD hN hP hG hR hC hS
  go_enter Tryd.func8, Tryd.ntmps8
  have HB := Lib.hid (bel_al HB.out (.cells #[.int .i64 a0, .int .i64 a1, .int .i64 a2, .int .i64 a3] 23))
  have KA := Lib.hid (Blk.new w #[.int .i64 a0, .int .i64 a1, .int .i64 a2, .int .i64 a3] 23)
  go_wp2_with fail
  generalize w.alloc (.cells #[.int .i64 a0, .int .i64 a1, .int .i64 a2, .int .i64 a3] 23) = v1 at HB KA ⊢
  ((with_reducible refine (shown06 v1 V (HVV.out.below HB.out)).mono ?_))
  rintro e u2 ⟨rfl, hb⟩
  have HB := Lib.hid (bstep HB.out hb)
  have KA := Lib.hid (KA.out.below' hb)
  clear hb
  have ltKA := KA.out.lt
  have cKA0 : u2.cell? ⟨w.heap.size, 0, none⟩ = some (.int .i64 a0) := KA.out.cell rfl
  have cKA1 : u2.cell? ⟨w.heap.size, 1, none⟩ = some (.int .i64 a1) := KA.out.cell rfl
  have cKA2 : u2.cell? ⟨w.heap.size, 2, none⟩ = some (.int .i64 a2) := KA.out.cell rfl
  have cKA3 : u2.cell? ⟨w.heap.size, 3, none⟩ = some (.int .i64 a3) := KA.out.cell rfl
  go_wp2_with fail
  clear ltKA cKA0 cKA1 cKA2 cKA3
  ((with_reducible refine (HE.out u2 HB.out).mono ?_))
  rintro e u3 ⟨rfl, hb⟩
  have HB := Lib.hid (bstep HB.out hb)
  have KA := Lib.hid (KA.out.below' hb)
  clear hb
  go_wp2_with fail
  ((with_reducible refine (HD.out u3 HB.out).mono ?_))
  rintro e u4 ⟨rfl, hb⟩
  have HB := Lib.hid (bstep HB.out hb)
  have KA := Lib.hid (KA.out.below' hb)
  clear hb
  have ltKA := KA.out.lt
  have cKA0 : u4.cell? ⟨w.heap.size, 0, none⟩ = some (.int .i64 a0) := KA.out.cell rfl
  have cKA1 : u4.cell? ⟨w.heap.size, 1, none⟩ = some (.int .i64 a1) := KA.out.cell rfl
  have cKA2 : u4.cell? ⟨w.heap.size, 2, none⟩ = some (.int .i64 a2) := KA.out.cell rfl
  have cKA3 : u4.cell? ⟨w.heap.size, 3, none⟩ = some (.int .i64 a3) := KA.out.cell rfl
  have HB := Lib.hid (bel_al HB.out (.cells #[.int .i64 a0, .int .i64 a1, .int .i64 a2, .int .i64 a3] 23))
  have KA := Lib.hid (KA.out.alloc (.cells #[.int .i64 a0, .int .i64 a1, .int .i64 a2, .int .i64 a3] 23))
  have KN := Lib.hid (Blk.new u4 #[.int .i64 a0, .int .i64 a1, .int .i64 a2, .int .i64 a3] 23)
  go_wp2_with fail
  generalize u4.alloc (.cells #[.int .i64 a0, .int .i64 a1, .int .i64 a2, .int .i64 a3] 23) = v5 at HB KA KN ⊢
  clear ltKA cKA0 cKA1 cKA2 cKA3
  ((with_reducible refine (HN.out v5 HB.out).mono ?_))
  rintro e u6 ⟨p, g, rfl, hA, hb, hg, hp⟩
  have hgA : w.heap.size ≤ g := Nat.le_trans HB.out.size hg
  have hKA : w.heap.size ≠ g := by have := KA.out.lt; omega
  have HA := Lib.hid hA
  have HB := Lib.hid (bstep HB.out hb)
  have KA := Lib.hid (KA.out.below' hb)
  clear hb hA hg hp KN
  have ltKA := KA.out.lt
  have cKA0 : u6.cell? ⟨w.heap.size, 0, none⟩ = some (.int .i64 a0) := KA.out.cell rfl
  have cKA1 : u6.cell? ⟨w.heap.size, 1, none⟩ = some (.int .i64 a1) := KA.out.cell rfl
  have cKA2 : u6.cell? ⟨w.heap.size, 2, none⟩ = some (.int .i64 a2) := KA.out.cell rfl
  have cKA3 : u6.cell? ⟨w.heap.size, 3, none⟩ = some (.int .i64 a3) := KA.out.cell rfl
  go_wp2_with fail
  clear ltKA cKA0 cKA1 cKA2 cKA3
  ((with_reducible refine (HP.out p g u6 HB.out HA.out).mono ?_))
  rintro e u7 ⟨rfl, hb⟩
  have HB := Lib.hid (bstep HB.out hb)
  have KA := Lib.hid (KA.out.below' hb)
  have HA := Lib.hid (HA.out.below hb)
  clear hb
  go_wp2_with fail
  ((with_reducible refine (HG.out p g u7 HB.out HA.out).mono ?_))
  rintro e u8 ⟨b0, b1, b2, b3, D, rfl, hb⟩
  have HB := Lib.hid (bstep HB.out hb)
  have KA := Lib.hid (KA.out.below' hb)
  have HA := Lib.hid (HA.out.below hb)
  clear hb
  have hAo := Lib.hid (HA.out.below ((Below.refl _ u8).alloc (Nat.le_refl _) (.cells #[.int .i64 b0, .int .i64 b1, .int .i64 b2, .int .i64 b3] 23)))
  have ltKA := KA.out.lt
  have cKA0 : u8.cell? ⟨w.heap.size, 0, none⟩ = some (.int .i64 a0) := KA.out.cell rfl
  have cKA1 : u8.cell? ⟨w.heap.size, 1, none⟩ = some (.int .i64 a1) := KA.out.cell rfl
  have cKA2 : u8.cell? ⟨w.heap.size, 2, none⟩ = some (.int .i64 a2) := KA.out.cell rfl
  have cKA3 : u8.cell? ⟨w.heap.size, 3, none⟩ = some (.int .i64 a3) := KA.out.cell rfl
  have HB := Lib.hid (bel_al HB.out (.cells #[.int .i64 b0, .int .i64 b1, .int .i64 b2, .int .i64 b3] 23))
  have KA := Lib.hid (KA.out.alloc (.cells #[.int .i64 b0, .int .i64 b1, .int .i64 b2, .int .i64 b3] 23))
  have KO := Lib.hid (Blk.new u8 #[.int .i64 b0, .int .i64 b1, .int .i64 b2, .int .i64 b3] 23)
  go_wp2_with fail
  generalize u8.alloc (.cells #[.int .i64 b0, .int .i64 b1, .int .i64 b2, .int .i64 b3] 23) = v9 at hAo HB KA KO ⊢
  clear ltKA cKA0 cKA1 cKA2 cKA3
  ((with_reducible refine (HR.out v9 HB.out).mono ?_))
  rintro e u10 ⟨rfl, hb⟩
  have HB := Lib.hid (bstep HB.out hb)
  have HA := Lib.hid (hAo.out.below hb)
  clear hb hAo
  go_wp2_with fail
  ((with_reducible refine (HC.out p g u10 HB.out HA.out).mono ?_))
  rintro e u11 ⟨rfl, hb⟩
  have HB := Lib.hid (bstep HB.out hb)
  clear hb
  go_wp2
  go_ret
  exact ⟨rfl, HB.out⟩
set_option maxRecDepth 100000 in
set_option maxHeartbeats 2000000 in
theorem back_ok (a0 a1 a2 a3 n f : Int) (S : ByteArray) (hS : S.size = 8) (bs cs : List UInt8) (hf : f.tmod 8 = 0) (w : World) (V : HR) (hV : HV w V) (hE : ∀ (W : World), Below w.heap.size w W → Calls Tryd.prog 10 #[.agg #[.int .i64 a0, .int .i64 a1, .int .i64 a2, .int .i64 a3]] W fun e w' => e = .returned (.tuple #[.string S, .int .i64 0]) ∧ Below W.heap.size W w') (hD : ∀ (W : World), Below w.heap.size w W → Calls Tryd.prog 12 #[.string S] W fun e w' => e = .returned (.tuple #[.agg #[.int .i64 a0, .int .i64 a1, .int .i64 a2, .int .i64 a3], .int .i64 0]) ∧ Below W.heap.size W w') (hN : ∀ (W : World), Below w.heap.size w W → Calls Tryd.prog 19 #[.int .i64 n] W fun e w' => ∃ p g, e = .returned (.tuple #[.pointer (some ⟨p, 0, none⟩), .int .i64 0]) ∧ Ar w' p g bs ∧ Below W.heap.size W w' ∧ W.heap.size ≤ g ∧ W.heap.size ≤ p) (hP : ∀ (p g : Nat) (W : World), Below w.heap.size w W → Ar W p g bs → Calls Tryd.prog 22 #[.pointer (some ⟨p, 0, none⟩), .int .i64 f, .agg #[.int .i64 a0, .int .i64 a1, .int .i64 a2, .int .i64 a3]] W fun e w' => e = .returned (.int .i64 0) ∧ Ar w' p g cs ∧ PutPost g W w') (hG : ∀ (p g : Nat) (W : World), Below w.heap.size w W → Ar W p g cs → Calls Tryd.prog 21 #[.pointer (some ⟨p, 0, none⟩), .int .i64 f] W fun e w' => e = .returned (.tuple #[.agg #[.int .i64 a0, .int .i64 a1, .int .i64 a2, .int .i64 a3], .int .i64 0]) ∧ Below W.heap.size W w') (hR : ∀ (p g : Nat) (W : World), Below w.heap.size w W → Ar W p g cs → Calls Tryd.prog 27 #[.pointer (some ⟨p, 0, none⟩), .int .i64 f, .int .i64 8] W fun e w' => e = .returned (.tuple #[.string S, .int .i64 0]) ∧ Below W.heap.size W w') : Calls Tryd.prog 8 #[.int .i64 n, .int .i64 f, .agg #[.int .i64 a0, .int .i64 a1, .int .i64 a2, .int .i64 a3]] w fun e w' => e = .returned (.bool true) ∧ Below w.heap.size w w' := by
  have HVV := Lib.hid hV
  have HE := Lib.hid hE
  have HD := Lib.hid hD
  have HN := Lib.hid hN
  have HP := Lib.hid hP
  have HG := Lib.hid hG
  have HR := Lib.hid hR
  have d0 : ((S.size : Int) != 8) = false := by simp; omega
  have e0 : (f.tmod 8 == 0) = true := by simpa using hf
  have HB := Lib.hid (Below.refl w.heap.size w)
  clear hV hE hD hN hP hG hR hS hf
  go_enter Tryd.func8, Tryd.ntmps8
  have HB := Lib.hid (bel_al HB.out (.cells #[.int .i64 a0, .int .i64 a1, .int .i64 a2, .int .i64 a3] 23))
  have KA := Lib.hid (Blk.new w #[.int .i64 a0, .int .i64 a1, .int .i64 a2, .int .i64 a3] 23)
  go_wp2_with fail
  generalize w.alloc (.cells #[.int .i64 a0, .int .i64 a1, .int .i64 a2, .int .i64 a3] 23) = v1 at HB KA ⊢
  ((with_reducible refine (shown06 v1 V (HVV.out.below HB.out)).mono ?_))
  rintro e u2 ⟨rfl, hb⟩
  have HB := Lib.hid (bstep HB.out hb)
  have KA := Lib.hid (KA.out.below' hb)
  clear hb
  have ltKA := KA.out.lt
  have cKA0 : u2.cell? ⟨w.heap.size, 0, none⟩ = some (.int .i64 a0) := KA.out.cell rfl
  have cKA1 : u2.cell? ⟨w.heap.size, 1, none⟩ = some (.int .i64 a1) := KA.out.cell rfl
  have cKA2 : u2.cell? ⟨w.heap.size, 2, none⟩ = some (.int .i64 a2) := KA.out.cell rfl
  have cKA3 : u2.cell? ⟨w.heap.size, 3, none⟩ = some (.int .i64 a3) := KA.out.cell rfl
  go_wp2_with fail
  clear ltKA cKA0 cKA1 cKA2 cKA3
  ((with_reducible refine (HE.out u2 HB.out).mono ?_))
  rintro e u3 ⟨rfl, hb⟩
  have HB := Lib.hid (bstep HB.out hb)
  have KA := Lib.hid (KA.out.below' hb)
  clear hb
  go_wp2_with fail
  ((with_reducible refine (HD.out u3 HB.out).mono ?_))
  rintro e u4 ⟨rfl, hb⟩
  have HB := Lib.hid (bstep HB.out hb)
  have KA := Lib.hid (KA.out.below' hb)
  clear hb
  have ltKA := KA.out.lt
  have cKA0 : u4.cell? ⟨w.heap.size, 0, none⟩ = some (.int .i64 a0) := KA.out.cell rfl
  have cKA1 : u4.cell? ⟨w.heap.size, 1, none⟩ = some (.int .i64 a1) := KA.out.cell rfl
  have cKA2 : u4.cell? ⟨w.heap.size, 2, none⟩ = some (.int .i64 a2) := KA.out.cell rfl
  have cKA3 : u4.cell? ⟨w.heap.size, 3, none⟩ = some (.int .i64 a3) := KA.out.cell rfl
  have HB := Lib.hid (bel_al HB.out (.cells #[.int .i64 a0, .int .i64 a1, .int .i64 a2, .int .i64 a3] 23))
  have KA := Lib.hid (KA.out.alloc (.cells #[.int .i64 a0, .int .i64 a1, .int .i64 a2, .int .i64 a3] 23))
  have KN := Lib.hid (Blk.new u4 #[.int .i64 a0, .int .i64 a1, .int .i64 a2, .int .i64 a3] 23)
  go_wp2_with fail
  generalize u4.alloc (.cells #[.int .i64 a0, .int .i64 a1, .int .i64 a2, .int .i64 a3] 23) = v5 at HB KA KN ⊢
  clear ltKA cKA0 cKA1 cKA2 cKA3
  ((with_reducible refine (HN.out v5 HB.out).mono ?_))
  rintro e u6 ⟨p, g, rfl, hA, hb, hg, hp⟩
  have hgA : w.heap.size ≤ g := Nat.le_trans HB.out.size hg
  have hKA : w.heap.size ≠ g := by have := KA.out.lt; omega
  have HA := Lib.hid hA
  have HB := Lib.hid (bstep HB.out hb)
  have KA := Lib.hid (KA.out.below' hb)
  clear hb hA hg hp KN
  have ltKA := KA.out.lt
  have cKA0 : u6.cell? ⟨w.heap.size, 0, none⟩ = some (.int .i64 a0) := KA.out.cell rfl
  have cKA1 : u6.cell? ⟨w.heap.size, 1, none⟩ = some (.int .i64 a1) := KA.out.cell rfl
  have cKA2 : u6.cell? ⟨w.heap.size, 2, none⟩ = some (.int .i64 a2) := KA.out.cell rfl
  have cKA3 : u6.cell? ⟨w.heap.size, 3, none⟩ = some (.int .i64 a3) := KA.out.cell rfl
  go_wp2_with fail
  clear ltKA cKA0 cKA1 cKA2 cKA3
  ((with_reducible refine (HP.out p g u6 HB.out HA.out).mono ?_))
  rintro e u7 ⟨rfl, hA, hk⟩
  have HB := Lib.hid (hk.below HB.out HB.out.size hgA)
  have KA := Lib.hid (hk.blk KA.out hKA)
  have HA := Lib.hid hA
  clear hk hA
  go_wp2_with fail
  ((with_reducible refine (HG.out p g u7 HB.out HA.out).mono ?_))
  rintro e u8 ⟨rfl, hb⟩
  have HB := Lib.hid (bstep HB.out hb)
  have KA := Lib.hid (KA.out.below' hb)
  have HA := Lib.hid (HA.out.below hb)
  clear hb
  have hAo := Lib.hid (HA.out.below ((Below.refl _ u8).alloc (Nat.le_refl _) (.cells #[.int .i64 a0, .int .i64 a1, .int .i64 a2, .int .i64 a3] 23)))
  have HB := Lib.hid (bel_al HB.out (.cells #[.int .i64 a0, .int .i64 a1, .int .i64 a2, .int .i64 a3] 23))
  have KA := Lib.hid (KA.out.alloc (.cells #[.int .i64 a0, .int .i64 a1, .int .i64 a2, .int .i64 a3] 23))
  have KO := Lib.hid (Blk.new u8 #[.int .i64 a0, .int .i64 a1, .int .i64 a2, .int .i64 a3] 23)
  go_wp2_with fail
  generalize u8.alloc (.cells #[.int .i64 a0, .int .i64 a1, .int .i64 a2, .int .i64 a3] 23) = v9 at hAo HB KA KO ⊢
  ((with_reducible refine (HR.out p g v9 HB.out hAo.out).mono ?_))
  rintro e u10 ⟨rfl, hb⟩
  have HB := Lib.hid (bstep HB.out hb)
  have KA := Lib.hid (KA.out.below' hb)
  have KO := Lib.hid (KO.out.below' hb)
  clear hb
  have cK0 : u10.cell? ⟨w.heap.size, 0, none⟩ = some (.int .i64 a0) := KA.out.cell rfl
  have cK1 : u10.cell? ⟨w.heap.size, 1, none⟩ = some (.int .i64 a1) := KA.out.cell rfl
  have cK2 : u10.cell? ⟨w.heap.size, 2, none⟩ = some (.int .i64 a2) := KA.out.cell rfl
  have cK3 : u10.cell? ⟨w.heap.size, 3, none⟩ = some (.int .i64 a3) := KA.out.cell rfl
  have cO0 : u10.cell? ⟨u8.heap.size, 0, none⟩ = some (.int .i64 a0) := KO.out.cell rfl
  have cO1 : u10.cell? ⟨u8.heap.size, 1, none⟩ = some (.int .i64 a1) := KO.out.cell rfl
  have cO2 : u10.cell? ⟨u8.heap.size, 2, none⟩ = some (.int .i64 a2) := KO.out.cell rfl
  have cO3 : u10.cell? ⟨u8.heap.size, 3, none⟩ = some (.int .i64 a3) := KO.out.cell rfl
  have lt1 := KA.out.lt
  have lt2 := KO.out.lt
  go_wp2
  go_ret
  exact ⟨rfl, HB.out⟩
theorem get_whatever (R : VR) (f : Int) (hf : InI f) (p g N : Nat) (W : World) (V : HR) (hV : HV W V) (hR : RV W R) (hA : Ar W p g (zer N)) :
    Calls Tryd.prog 21 #[.pointer (some ⟨p, 0, none⟩), .int .i64 f] W fun e w' => ∃ b0 b1 b2 b3 D : Int, e = .returned (.tuple #[.agg #[.int .i64 b0, .int .i64 b1, .int .i64 b2, .int .i64 b3], .int .i64 D]) ∧ Below W.heap.size W w' := by
  by_cases h : f.tmod 8 = 0 ∧ okB (zer N).length f 8 1
  · obtain ⟨h8, h1, _, h2, _⟩ := h
    obtain ⟨i, rfl⟩ : ∃ i : Nat, f = i := ⟨f.toNat, by omega⟩
    rw [zer_len] at h2
    have hi : i + 8 ≤ N := by omega
    have hi8 : i % 8 = 0 := by rw [Int.tmod_eq_emod_of_nonneg (by omega)] at h8; omega
    refine (hget_ok p i 0 0 0 0 60 ⟨#[0, 0, 0, 0, 0, 0, 0, 0]⟩ W ?_ ?_).mono ?_
    · intro U hU
      have h := hload_ok p g (zer N) i U (hA.below hU) hi8 (by rw [zer_len]; exact hi)
      rw [zer_cut N i hi] at h
      exact h
    · intro U hU
      exact hDec_none ⟨#[0, 0, 0, 0, 0, 0, 0, 0]⟩ (by rfl) U V (hV.below hU)
    · rintro e w' ⟨rfl, hb⟩
      exact ⟨0, 0, 0, 0, 60, rfl, hb⟩
  · refine (hget_err p f W V hV fun U hU => ?_).mono ?_
    · by_cases h8 : f.tmod 8 = 0
      · exact hload_bad V R p g (zer N) f U (hV.below hU) (hR.below hU) (hA.below hU) hf h8 (fun hk => h ⟨h8, hk⟩)
      · exact hload_odd V p f U (hV.below hU) h8
    · rintro e w' ⟨rfl, hb⟩
      exact ⟨0, 0, 0, 0, 10, rfl, hb⟩
theorem lawHeadBack (n f : Int) (x : Mk) (w : World) (V : HR) (R : VR) (hV : HV w V) (hR : RV w R) (hn : InI n) (hf : InI f) : Calls Tryd.prog 8 #[.int .i64 n, .int .i64 f, .agg (mkA x)] w fun e w' => e = .returned (.bool true) ∧ Below w.heap.size w w' := by
  have hsz : ∀ K L C E : Nat, (⟨(hd8 K L C E).toArray⟩ : ByteArray).size = 8 := hd8_len
  by_cases hb : n < 1 ∨ 32 < n
  · have hN : ∀ W, Below w.heap.size w W → Calls Tryd.prog 19 #[.int .i64 n] W fun e w' => e = .returned (.tuple #[.pointer none, .int .i64 2]) ∧ Below W.heap.size W w' := by
      intro W hW
      refine new_bad R n _ W (hR.below hW) rfl ?_
      unfold InI at hn
      by_cases h1 : n = -9223372036854775808
      · subst h1; right; decide
      · rw [IntWalk.i64_in (n - 1) (by omega)]; omega
    rcases mk_split x with hx | ⟨K, L, C, E, rfl, hK, hL, hC, hE⟩
    · exact back_bad_n _ _ _ _ n f w V hV (fun W h => henc_no x hx W V (hV.below h)) (fun W h => hDec_none ⟨#[]⟩ (by rfl) W V (hV.below h)) hN
    · exact back_bad_y _ _ _ _ n f _ (hsz K L C E) w V hV (fun W h => henc_yes K L C E hK hL hC hE W V (hV.below h)) (fun W h => hDec_some ⟨(hd8 K L C E).toArray⟩ _ (decL_hd8 hK hL hC hE) W V (hV.below h)) hN
  · obtain ⟨b, rfl⟩ : ∃ b : Nat, n = b := ⟨n.toNat, by omega⟩
    have h1 : 1 ≤ b := by omega
    have h2 : b ≤ 32 := by omega
    have hN := fun W hW => new_ok R b W (hR.below hW) h1 h2
    generalize hNN : 4096 * b = N at hN
    have hN0 : 0 < N := by omega
    have hP : ∀ (p g : Nat) (W : World), Below w.heap.size w W → Ar W p g (zer N) → (f.tmod 8 = 0 → ¬ okB (zer N).length f 8 1) → ∀ K L C E : Nat, (1 ≤ K ∧ K ≤ 60) → L ≤ 40000 → (1 ≤ C ∧ C ≤ 3) → E ≤ 255 → Calls Tryd.prog 22 #[.pointer (some ⟨p, 0, none⟩), .int .i64 f, .agg (mkA (mkN K L C E))] W fun e w' => e = .returned (.int .i64 10) ∧ Below W.heap.size W w' := by
      intro p g W hW hA h K L C E hK hL hC hE
      refine hput_err p f _ _ _ _ _ (fun W V h => henc_yes K L C E hK hL hC hE W V h) W V (hV.below hW) fun U hU => ?_
      by_cases h8 : f.tmod 8 = 0
      · exact hload_bad V R p g (zer N) f U ((hV.below hW).below hU) ((hR.below hW).below hU) (hA.below hU) hf h8 (h h8)
      · exact hload_odd V p f U ((hV.below hW).below hU) h8
    have hG := fun p g W (hW : Below w.heap.size w W) hA => get_whatever R f hf p g N W V (hV.below hW) (hR.below hW) hA
    have hC := fun p g W (_ : Below w.heap.size w W) hA => hcount_z p g N hN0 W hA
    rcases mk_split x with hx | ⟨K, L, C, E, rfl, hK, hL, hC', hE⟩
    · refine back_no_n _ _ _ _ _ f (zer N) w V hV (fun W h => henc_no x hx W V (hV.below h)) (fun W h => hDec_none ⟨#[]⟩ (by rfl) W V (hV.below h)) hN ?_ hG (fun W h => by have := hright_any x W V (hV.below h); rw [hx] at this; exact this) hC
      intro p g W hW hA
      exact hput_no p f _ _ _ _ (fun W V h => henc_no x hx W V h) W V (hV.below hW)
    · have hEn := fun W (h : Below w.heap.size w W) => henc_yes K L C E hK hL hC' hE W V (hV.below h)
      have hDe := fun W (h : Below w.heap.size w W) => hDec_some ⟨(hd8 K L C E).toArray⟩ _ (decL_hd8 hK hL hC' hE) W V (hV.below h)
      by_cases hq : f.tmod 8 = 0 ∧ okB (zer N).length f 8 1
      · obtain ⟨h8, h3, _, h4, _⟩ := hq
        obtain ⟨i, rfl⟩ : ∃ i : Nat, f = i := ⟨f.toNat, by omega⟩
        rw [zer_len] at h4
        have hi : i + 8 ≤ N := by omega
        have hi8 : i % 8 = 0 := by rw [Int.tmod_eq_emod_of_nonneg (by omega)] at h8; omega
        exact back_ok _ _ _ _ _ _ _ (hsz K L C E) (zer N) (wrL (zer N) i (hd8 K L C E)) h8 w V hV hEn hDe hN
          (fun p g W hW hA => hput_z hK hL hC' hE p g N i hi8 hi W V (hV.below hW) hA)
          (fun p g W hW hA => hget_z hK hL hC' hE p g N i hi8 hi W V (hV.below hW) hA)
          (fun p g W _ hA => hread_z K L C E p g N i hi W hA)
      · refine back_no_y _ _ _ _ _ f _ (hsz K L C E) (zer N) w V hV hEn hDe hN ?_ hG (fun W h => by have := hright_any (mkN K L C E) W V (hV.below h); rw [rightB_in hK hL hC' hE] at this; exact this) hC
        exact fun p g W hW hA => hP p g W hW hA (fun h8 hk => hq ⟨h8, hk⟩) K L C E hK hL hC' hE
end Go.Proofs.YtmikkbhillkpkaaDoor
