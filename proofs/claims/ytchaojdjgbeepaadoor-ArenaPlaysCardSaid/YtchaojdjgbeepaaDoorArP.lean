/-
  selionlaw03.ArenaPlays, for every input.
-/
import Derived.Test.YtchaojdjgbeepaaDoorArY
import Derived.Test.YtchaojdjgbeepaaDoorRfC
import Derived.Laws.StructEq
namespace Go.Proofs.YtchaojdjgbeepaaDoor
open Go.RowKit Go.Lib Go.Shelf
attribute [local go_sem] Oper.semAt_some

theorem read_allP (p g : Nat) (bs : List UInt8) (T : ByteArray) (N : Nat) (hT : T = ⟨bs.toArray⟩) (hN : bs.length = N) (W : World) (hA : Ar W p g bs) :
    Calls Tryd.prog 21 #[.pointer (some ⟨p, 0, none⟩), .int .i64 0, .int .i64 (N : Int)] W fun e w' => e = .returned (.tuple #[.string T, .int .i64 0]) ∧ Below W.heap.size W w' := by
  have h5 := read_ok p g bs 0 bs.length W hA (by omega)
  rw [List.drop_zero, List.take_length, ← hT, hN] at h5
  exact h5
theorem size_atP (p g : Nat) (bs : List UInt8) (N : Nat) (hN : bs.length = N) (W : World) (hA : Ar W p g bs) :
    Calls Tryd.prog 14 #[.pointer (some ⟨p, 0, none⟩)] W fun e w' => e = .returned (.int .i64 (N : Int)) ∧ W = w' := by
  subst hN
  exact size_ok p g bs W hA
theorem OL.lt {w : World} {q : Option Addr} {xs : List OpD} (h : OL w q xs) {i : Nat} {x : OpD} (hx : xs[i]? = some x) {b o : Nat} (hq : q = some ⟨b, o, none⟩) : b < w.heap.size := by
  obtain ⟨b', o', e, _, _, c0, _⟩ := h i x hx
  rw [hq] at e
  cases e
  exact World.block_lt_of_cell? w _ c0
theorem said_eq (a e : Int) (v : Nat) (s : ByteArray) (W : World) : (Op.equalIn 10000 41 (.agg #[.int .i64 a, .int .u32 (v : Int), .string s, .int .i64 e]) (.agg #[.int .i64 a, .int .u32 (v : Int), .string s, .int .i64 e])).run Tryd.prog W = .ok true W := by
  go_simp
theorem all_text (p g : Nat) (bs : List UInt8) (T : ByteArray) (N : Nat) (hT : T = ⟨bs.toArray⟩) (hN : bs.length = N) (W : World) (hA : Rr W p g bs) : (convert 48 9 (.slice (some ⟨g, 0, none⟩) N N)).run Tryd.prog W = .ok (.string T) W := by
  have h := run_text hA 0 bs.length (by omega)
  rw [List.drop_zero, List.take_length, ← hT, hN] at h
  simpa [cutv] using h
set_option maxRecDepth 100000 in
set_option maxHeartbeats 1000000 in
theorem lawArenaPlays_bad (V : VR) (b : Int) (q : Option Addr) (n cap : Nat) (xs : List OpD) (w : World) (hV : RV w V) (hb : InI b) (h : b < 1 ∨ 32 < b) (hL : OL w q xs) (hn : xs.length = n) (hm : n ≤ maxLen) :
    Calls Tryd.prog 4 #[.int .i64 b, .slice q n cap] w fun e w' => e = .returned (.bool true) ∧ Below w.heap.size w w' := by
  have HS := Lib.hid (shown_ok V w hV)
  have HV := Lib.hid hV
  have HC := Lib.hid (fun W (hW : Below w.heap.size w W) => cut_any q n cap xs W (hL.below hW) hn hm)
  have hm' : IntKind.i64.wrap (b - 1) < 0 ∨ 32 ≤ IntKind.i64.wrap (b - 1) := by
    obtain ⟨h1, h2⟩ := hb
    rw [IntKind.wrap_i64]
    omega
  have HM := Lib.hid hm'
  have HRN := Lib.hid (fun W => rnew_bad b W h)
  clear hV hb h hL hn hm hm'
  generalize cutL xs = ys at HC
  go_enter Tryd.func4, Tryd.ntmps4
  go_wp2_with fail
  ((with_reducible refine HS.out.mono ?_))
  rintro e w1 ⟨rfl, hb⟩
  have HB1 := Lib.hid hb
  clear hb HS
  go_wp2_with fail
  ((with_reducible refine (HC.out w1 HB1.out).mono ?_))
  rintro e w2 ⟨q2, c2, rfl, _, _, hb⟩
  have HB2 := Lib.hid (bstep HB1.out hb)
  clear hb
  go_wp2_with fail
  ((with_reducible refine (new_bad V b _ w2 (HV.out.below HB2.out) rfl HM.out).mono ?_))
  rintro e w3 ⟨rfl, hb⟩
  have HB3 := Lib.hid (bstep HB2.out hb)
  clear hb
  go_wp2_with fail
  ((with_reducible refine (HRN.out w3).mono ?_))
  rintro e w' ⟨rfl, rfl⟩
  go_wp2_with fail
  ((with_reducible refine (size_nil w3).mono ?_))
  rintro e w' ⟨rfl, rfl⟩
  go_wp2_with fail
  ((with_reducible refine (zero_nil V 0 0 w3 (HV.out.below HB3.out)).mono ?_))
  rintro e w4 ⟨rfl, hb⟩
  have HB4 := Lib.hid (bstep HB3.out hb)
  clear hb
  go_wp2
  go_ret
  exact ⟨rfl, HB4.out⟩
set_option maxRecDepth 100000 in
set_option maxHeartbeats 2000000 in
theorem lawArenaPlays_good (V : VR) (b : Nat) (q : Option Addr) (n cap : Nat) (xs : List OpD) (w : World) (hV : RV w V) (h0 : 1 ≤ b) (h1 : b ≤ 32) (hL : OL w q xs) (hn : xs.length = n) (hm : n ≤ maxLen) :
    Calls Tryd.prog 4 #[.int .i64 (b : Int), .slice q n cap] w fun e w' => e = .returned (.bool true) ∧ Below w.heap.size w w' := by
  have HS := Lib.hid (shown_ok V w hV)
  have HV := Lib.hid hV
  have HC := Lib.hid (fun W (hW : Below w.heap.size w W) => cut_any q n cap xs W (hL.below hW) hn hm)
  have hcl : (cutL xs).length ≤ 20 := by rw [cutL_len]; omega
  clear hV hL hn hm
  generalize cutL xs = ys at HC hcl
  go_enter Tryd.func4, Tryd.ntmps4
  go_wp2_with fail
  ((with_reducible refine HS.out.mono ?_))
  rintro e w1 ⟨rfl, hb⟩
  have HB1 := Lib.hid hb
  clear hb HS
  go_wp2_with fail
  ((with_reducible refine (HC.out w1 HB1.out).mono ?_))
  rintro e w2 ⟨q2, c2, rfl, hL2, hq2, hb⟩
  have HB2 := Lib.hid (bstep HB1.out hb)
  have HL2 := Lib.hid hL2
  have HQ2 := Lib.hid (fun i x hx b o hq => hL2.lt (i := i) (x := x) hx (b := b) (o := o) hq)
  clear hb hq2 hL2
  go_wp2_with fail
  ((with_reducible refine (new_ok V b w2 (HV.out.below HB2.out) h0 h1).mono ?_))
  rintro e w3 ⟨p, g, rfl, hA, hb, hg, hp⟩
  have HA3 := Lib.hid hA
  have HB3 := Lib.hid (bstep HB2.out hb)
  have HL3 := Lib.hid (HL2.out.below hb)
  have hgl := hA.hg.lt
  have hpl := hA.hp.lt
  clear hA hb
  go_wp2_with fail
  ((with_reducible refine (rnew_ok b w3 h0 h1).mono ?_))
  rintro e w4 ⟨p', g', rfl, hA, hb, hg', hp'⟩
  have HR4 := Lib.hid hA
  have HA4 := Lib.hid (HA3.out.below hb)
  have HB4 := Lib.hid (bstep HB3.out hb)
  have HL4 := Lib.hid (HL3.out.below hb)
  have z1 := HB1.out.size
  have z2 := HB2.out.size
  have z3 := HB3.out.size
  clear hA hb HC HL2 HL3 HA3
  have hys : ∃ m, ys.length = m := ⟨_, rfl⟩
  obtain ⟨m, hm⟩ := hys
  rw [hm] at hcl ⊢
  have HM := Lib.hid hm
  clear hm
  obtain ⟨bz, hbz⟩ : ∃ l, l = zer (4096 * b) := ⟨_, rfl⟩
  have hlz : bz.length = 4096 * b := by rw [hbz, zer_len]
  rw [← hbz] at HA4 HR4
  clear hbz
  go_wp2
  go_loopw [10] (fun i wr => ∃ k : Nat, k ≤ m ∧ i = .int .i64 (k : Int) ∧ Ar wr p g (runA bz (ys.take k)) ∧ Rr wr p' g' (runA bz (ys.take k)) ∧ OL wr q2 ys ∧ Below w.heap.size w wr) (fun i _ => 20 - (intOf i).toNat)
  case atStart => exact ⟨0, by omega, rfl, HA4.out, HR4.out, HL4.out, HB4.out⟩
  case round =>
    obtain ⟨k, hk, rfl, hA, hR, hL, hb⟩ := hrel
    clear HA4 HB4 HL4 HR4
    by_cases hlt : k < m
    · have b0 : decide ((k : Int) < (m : Int)) = true := by simp; omega
      have b0' : decide (k < m) = true := by simpa using hlt
      have hx : ys[k]? = some (ys[k]'(by rw [HM.out]; exact hlt)) := List.getElem?_eq_getElem _
      generalize ys[k]'(by rw [HM.out]; exact hlt) = x at hx
      obtain ⟨bb, o, rfl, hok, _, c0, c1, c2, c3, c4⟩ := hL k x hx
      have HS := Lib.hid (runA_take bz ys k x hx)
      have HX := Lib.hid hx
      have hbl := World.block_lt_of_cell? wr _ c0
      have hlk : (runA bz (ys.take k)).length = 4096 * b := by rw [runA_len, hlz]
      have hD := do_any V p g _ x wr.drew (HV.out.below hb.drew) hA.drew hok
      have hWt : ∀ W, Rr W p' g' (runA bz (ys.take k)) → _ := fun W hW => want_any p' g' _ x W hW hok
      generalize hd : (doA (runA bz (ys.take k)) x).1 = r at hD hWt
      obtain ⟨ra, rv, rs, re⟩ := r
      have heq := said_eq ra re rv rs
      have HD := Lib.hid hD
      have HW := Lib.hid hWt
      have HL := Lib.hid hL
      have HB := Lib.hid hb
      have HR := Lib.hid hR
      have ik : (0 : Int) ≤ (k : Int) := by omega
      have hsz := hb.size
      have hqb := HQ2.out k x hx bb o rfl
      clear hx hok hA hL hb hR hD hWt hd hlk
      go_wp2
      go_region_held3 (fun w' => w'.cell? ⟨bb, o + k * 5, none⟩ = some (.int .i64 x.kind) ∧ w'.cell? ⟨bb, o + k * 5 + 1, none⟩ = some (.int .i64 x.at') ∧ w'.cell? ⟨bb, o + k * 5 + 2, none⟩ = some (.int .i64 x.n) ∧ w'.cell? ⟨bb, o + k * 5 + 3, none⟩ = some (.int .u32 (x.v : Int)) ∧ w'.cell? ⟨bb, o + k * 5 + 4, none⟩ = some (.string x.s))
        (with_reducible first | exact ⟨c0, c1, c2, c3, c4⟩ | exact ⟨cell_dr c0, cell_dr c1, cell_dr c2, cell_dr c3, cell_dr c4⟩ | exact ⟨d0, d1, d2, d3, d4⟩ | exact ⟨f0, f1, f2, f3, f4⟩)
        (first
          | (go_at_call 19; ((with_reducible refine HD.out.mono ?_)); rintro e w5 ⟨rfl, hA5, hU5⟩; have HR5 := Lib.hid (HR.out.drew.other hU5 (by omega) (by omega)); have hL5 := OL.upd (w := wr.drew) HL.out hU5 (fun a ea => by cases ea; show bb ≠ g; omega); obtain ⟨bb', o', ebo, _, _, d0, d1, d2, d3, d4⟩ := hL5 k x HX.out; cases ebo; have HL5 := Lib.hid hL5; have HA5 := Lib.hid hA5; have HB5 := Lib.hid (Upd.below HB.out.drew hU5 hsz (by omega)); clear hA5 hU5 hL5)
          | (go_at_call 20; ((with_reducible refine (HW.out w5 HR5.out).mono ?_)); rintro e w6 ⟨rfl, hR6, hU6⟩; have HA6 := Lib.hid (HA5.out.other hU6 (by omega) (by omega)); have hL6 := HL5.out.upd hU6 (fun a ea => by cases ea; show bb ≠ g'; omega); obtain ⟨bb', o', ebo, _, _, f0, f1, f2, f3, f4⟩ := hL6 k x HX.out; cases ebo; have HL6 := Lib.hid hL6; have HR6 := Lib.hid hR6; have HB6 := Lib.hid (Upd.below HB5.out hU6 HB5.out.size (by omega)); clear hR6 hU6 hL6))
      go_wp2
      go_roundw
      case rel => exact ⟨k + 1, by omega, by go_num, by rw [HS.out]; exact HA6.out, by rw [HS.out]; exact HR6.out, HL6.out, HB6.out⟩
      case measure => simp [intOf]; omega
    · obtain rfl : k = m := by omega
      rw [List.take_of_length_le (by rw [HM.out]; omega)] at hA hR
      have hlk : (runA bz ys).length = 4096 * b := by rw [runA_len, hlz]
      generalize runA bz ys = bs at hA hR hlk
      obtain ⟨N, hN⟩ : ∃ N, 4096 * b = N := ⟨_, rfl⟩
      rw [hN] at hlk
      obtain ⟨T, hT⟩ : ∃ T : ByteArray, T = ⟨bs.toArray⟩ := ⟨_, rfl⟩
      have CZ := Lib.hid (fun W => size_atP p g bs N hlk W)
      have CR := Lib.hid (fun W => read_allP p g bs T N hT hlk W)
      have CT := Lib.hid (fun W => all_text p' g' bs T N hT hlk W)
      have CC := Lib.hid (fun W hW => count_ok p g bs W hW (by omega))
      have CQ := Lib.hid (fun W hW => rcount_ok p' g' bs W hW)
      have HAe := Lib.hid hA
      have HRe := Lib.hid hR
      have HBe := Lib.hid hb
      have HLe := Lib.hid hlk
      clear hA hR hb hL hlk hT hlz hN
      go_wp2_with fail
      ((with_reducible refine (CZ.out wr HAe.out).mono ?_))
      rintro e w' ⟨rfl, rfl⟩
      go_wp2_with fail
      ((with_reducible refine (CR.out wr HAe.out).mono ?_))
      rintro e w7 ⟨rfl, hb⟩
      have HA7 := Lib.hid (HAe.out.below hb)
      have hR7 := HRe.out.below hb
      have HB7 := Lib.hid (bstep HBe.out hb)
      have HR7 := Lib.hid hR7
      have hcv := CT.out w7 hR7
      have hcd := CT.out w7.drew hR7.drew
      have cp : w7.cell? ⟨p', 0, none⟩ = some (.slice (some ⟨g', 0, none⟩) N N) := by have := hR7.hp.cell (k := 0) rfl; rw [HLe.out] at this; exact this
      clear hb hR7 HAe HRe HBe
      go_wp2
      go_region_held3 (fun w' => w'.cell? ⟨p', 0, none⟩ = some (.slice (some ⟨g', 0, none⟩) N N) ∧ (convert 48 9 (.slice (some ⟨g', 0, none⟩) N N)).run Tryd.prog w' = .ok (.string T) w')
        (with_reducible first | exact ⟨cp, hcv⟩ | exact ⟨cell_dr cp, hcd⟩ | exact ⟨cq, hcq⟩)
        (first
          | (go_at_call 14; ((with_reducible refine (CZ.out w7.drew HA7.out.drew).mono ?_)); rintro e w' ⟨rfl, rfl⟩)
          | (go_at_call 15; ((with_reducible refine (CC.out w7.drew HA7.out.drew).mono ?_)); rintro e w8 ⟨rfl, hb⟩; have cq := cell_below (cell_dr cp) hb; have HR8 := Lib.hid (HR7.out.drew.below hb); have hcq := CT.out w8 HR8.out; have HB8 := Lib.hid (bstep HB7.out.drew hb); clear hb)
          | (go_at_call 22; ((with_reducible refine (CQ.out w8 HR8.out).mono ?_)); rintro e w' ⟨rfl, rfl⟩))
      go_wp2
      go_ret
      exact ⟨rfl, HB8.out⟩

theorem lawArenaPlays (V : VR) (b : Int) (q : Option Addr) (n cap : Nat) (w : World) (hV : RV w V) (hb : InI b) (hl : n ≤ cap) (hm : cap ≤ maxLen) (hI : ∃ xs, OL w q xs ∧ xs.length = n) :
    Calls Tryd.prog 4 #[.int .i64 b, .slice q n cap] w fun e w' => e = .returned (.bool true) ∧ Below w.heap.size w w' := by
  obtain ⟨xs, hL, hn⟩ := hI
  by_cases h : b < 1 ∨ 32 < b
  · exact lawArenaPlays_bad V b q n cap xs w hV hb h hL hn (by omega)
  · obtain ⟨b, rfl⟩ : ∃ c : Nat, b = c := ⟨b.toNat, by omega⟩
    exact lawArenaPlays_good V b q n cap xs w hV (by omega) (by omega) hL hn (by omega)
end Go.Proofs.YtchaojdjgbeepaaDoor
