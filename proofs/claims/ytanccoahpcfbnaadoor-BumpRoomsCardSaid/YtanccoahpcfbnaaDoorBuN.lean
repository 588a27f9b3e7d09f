/-
  selionlaw11.BumpRooms, for every input.
-/
import Derived.Test.YtanccoahpcfbnaaDoorBuK
import Derived.Test.YtanccoahpcfbnaaDoorBuE
import Derived.Test.YtanccoahpcfbnaaDoorLaidB
namespace Go.Proofs.YtanccoahpcfbnaaDoor
open Go.RowKit Go.Lib Go.Shelf Ad
attribute [local go_sem] Oper.semAt_some
set_option linter.unusedSimpArgs false
set_option linter.unusedVariables false

set_option maxRecDepth 100000 in
set_option maxHeartbeats 2000000 in
theorem lawBumpRooms_far0 (p : Option Addr) (n cap : Nat) (B : Int) (w : World) (aA aS aR : Addr) (hV : AV w aA aS aR) (hl : n ≤ cap) (hm : cap ≤ maxLen) (hB : B < 0) (hO : ∀ W, Below w.heap.size w W → Calls Tryd.prog 20 #[.slice p (min n 34) cap, .int .i64 B, .int .i64 0] W fun e w' => e = .returned (.tuple #[.agg #[.int .i64 0, .int .i64 0, .int .i64 0], .bool false]) ∧ Below W.heap.size W w') : Calls Tryd.prog 7 #[.slice p n cap, .int .i64 B] w fun e w' => e = .returned (.bool true) ∧ Below w.heap.size w w' := by
  have HS := Lib.hid (fun W (hW : Below w.heap.size w W) => shown11 W aA aS aR (hV.below hW))
  have HC := Lib.hid (fun W => cut_any p n cap W hl hm)
  have HO := Lib.hid (fun W (hW : Below w.heap.size w W) => hO W hW)
  have c1 : decide (B < 0) = true := by simpa using hB
  clear hV hl hm hO
  have HB := Lib.hid (Below.refl w.heap.size w)
  go_enter Tryd.func7, Tryd.ntmps7
  go_wp2_with fail
  ((with_reducible refine (HS.out w HB.out).mono ?_))
  rintro e u1 ⟨rfl, hb⟩
  have HB := Lib.hid (bstep HB.out hb)
  clear hb
  go_wp2_with fail
  ((with_reducible refine (HC.out u1).mono ?_))
  rintro e w' ⟨rfl, rfl⟩
  go_wp2_with fail
  ((with_reducible refine (HO.out u1 HB.out).mono ?_))
  rintro e u2 ⟨rfl, hb⟩
  have HB := Lib.hid (bstep HB.out hb)
  clear hb
  go_wp2
  go_ret
  exact ⟨rfl, bel_al HB.out _⟩
set_option maxRecDepth 100000 in
set_option maxHeartbeats 2000000 in
theorem lawBumpRooms_far1 (p : Option Addr) (n cap : Nat) (B : Int) (w : World) (aA aS aR : Addr) (hV : AV w aA aS aR) (hl : n ≤ cap) (hm : cap ≤ maxLen) (hB : 31 < B) (hO : ∀ W, Below w.heap.size w W → Calls Tryd.prog 20 #[.slice p (min n 34) cap, .int .i64 B, .int .i64 0] W fun e w' => e = .returned (.tuple #[.agg #[.int .i64 0, .int .i64 0, .int .i64 0], .bool false]) ∧ Below W.heap.size W w') : Calls Tryd.prog 7 #[.slice p n cap, .int .i64 B] w fun e w' => e = .returned (.bool true) ∧ Below w.heap.size w w' := by
  have HS := Lib.hid (fun W (hW : Below w.heap.size w W) => shown11 W aA aS aR (hV.below hW))
  have HC := Lib.hid (fun W => cut_any p n cap W hl hm)
  have HO := Lib.hid (fun W (hW : Below w.heap.size w W) => hO W hW)
  have c1 : decide (B < 0) = false := by simp; omega
  have c2 : decide (31 < B) = true := by simpa using hB
  clear hV hl hm hO
  have HB := Lib.hid (Below.refl w.heap.size w)
  go_enter Tryd.func7, Tryd.ntmps7
  go_wp2_with fail
  ((with_reducible refine (HS.out w HB.out).mono ?_))
  rintro e u1 ⟨rfl, hb⟩
  have HB := Lib.hid (bstep HB.out hb)
  clear hb
  go_wp2_with fail
  ((with_reducible refine (HC.out u1).mono ?_))
  rintro e w' ⟨rfl, rfl⟩
  go_wp2_with fail
  ((with_reducible refine (HO.out u1 HB.out).mono ?_))
  rintro e u2 ⟨rfl, hb⟩
  have HB := Lib.hid (bstep HB.out hb)
  clear hb
  go_wp2
  go_ret
  exact ⟨rfl, bel_al HB.out _⟩
set_option maxRecDepth 100000 in
set_option maxHeartbeats 2000000 in
theorem lawBumpRooms_full0 (p : Option Addr) (n cap : Nat) (B : Int) (w : World) (aA aS aR : Addr) (hV : AV w aA aS aR) (hl : n ≤ cap) (hm : cap ≤ maxLen) (hB : 0 ≤ B ∧ B < 32) (hO : ∀ W, Below w.heap.size w W → Calls Tryd.prog 20 #[.slice p (min n 34) cap, .int .i64 B, .int .i64 0] W fun e w' => e = .returned (.tuple #[.agg #[.int .i64 0, .int .i64 0, .int .i64 0], .bool false]) ∧ Below W.heap.size W w') (hM : ∀ W, Below w.heap.size w W → Calls Tryd.prog 29 #[.slice p (min n 34) cap] W fun e w' => e = .returned (.int .i64 0) ∧ Below W.heap.size W w') : Calls Tryd.prog 7 #[.slice p n cap, .int .i64 B] w fun e w' => e = .returned (.bool true) ∧ Below w.heap.size w w' := by
  have HS := Lib.hid (fun W (hW : Below w.heap.size w W) => shown11 W aA aS aR (hV.below hW))
  have HC := Lib.hid (fun W => cut_any p n cap W hl hm)
  have HO := Lib.hid (fun W (hW : Below w.heap.size w W) => hO W hW)
  have HM := Lib.hid (fun W (hW : Below w.heap.size w W) => hM W hW)
  obtain ⟨hB1, hB2⟩ := hB
  have c1 : decide (B < 0) = false := by simp; omega
  have c2 : decide (31 < B) = false := by simp; omega
  clear hV hl hm hO hM
  have HB := Lib.hid (Below.refl w.heap.size w)
  go_enter Tryd.func7, Tryd.ntmps7
  go_wp2_with fail
  ((with_reducible refine (HS.out w HB.out).mono ?_))
  rintro e u1 ⟨rfl, hb⟩
  have HB := Lib.hid (bstep HB.out hb)
  clear hb
  go_wp2_with fail
  ((with_reducible refine (HC.out u1).mono ?_))
  rintro e w' ⟨rfl, rfl⟩
  go_wp2_with fail
  ((with_reducible refine (HO.out u1 HB.out).mono ?_))
  rintro e u2 ⟨rfl, hb⟩
  have HB := Lib.hid (bstep HB.out hb)
  clear hb
  have HB := Lib.hid (bel_al HB.out (.cells #[.int .i64 0, .int .i64 0, .int .i64 0] 23))
  have KC := Lib.hid (Blk.new u2 #[.int .i64 0, .int .i64 0, .int .i64 0] 23)
  go_wp2_with fail
  generalize u2.alloc (.cells #[.int .i64 0, .int .i64 0, .int .i64 0] 23) = v3 at HB KC ⊢
  ((with_reducible refine (HM.out v3 HB.out).mono ?_))
  rintro e u4 ⟨rfl, hb⟩
  have HB := Lib.hid (bstep HB.out hb)
  have KC := Lib.hid (KC.out.below' hb)
  clear hb
  go_wp2
  go_ret
  exact ⟨rfl, HB.out⟩
set_option maxRecDepth 100000 in
set_option maxHeartbeats 2000000 in
theorem lawBumpRooms_some (tb to cap : Nat) (w : World) (aA aS aR : Addr) (hV : AV w aA aS aR) (bn : Nat) (x : Nat × Nat) (hs : List (Nat × Nat)) (hbn : bn < 32) (hb : ∀ y ∈ x :: hs, y.1 < y.2 ∧ y.2 ≤ 32) (hlen : (x :: hs).length ≤ 16) (hl : 32 ≤ cap) (hm : cap ≤ maxLen)
    (hO : ∀ W, Below w.heap.size w W → Calls Tryd.prog 20 #[.slice (some ⟨tb, to, none⟩) 32 cap, .int .i64 (bn : Int), .int .i64 0] W fun e w' => e = .returned (.tuple #[.agg #[.int .i64 (bn : Int), .int .i64 (4096 * (bn : Int) + (x.1 : Int) * 128), .int .i64 (4096 * (bn : Int) + (x.2 : Int) * 128)], .bool true]) ∧ Below W.heap.size W w')
    (hA : ∀ W, Below w.heap.size w W → Calls Tryd.prog 27 #[.slice (some ⟨tb, to, none⟩) 32 cap, .agg #[.int .i64 (bn : Int), .int .i64 (4096 * (bn : Int) + (x.1 : Int) * 128), .int .i64 (4096 * (bn : Int) + (x.2 : Int) * 128)]] W (CuPost W (bn : Int) hs))
    (hH : ∀ W, Below w.heap.size w W → Calls Tryd.prog 29 #[.slice (some ⟨tb, to, none⟩) 32 cap] W fun e w' => e = .returned (.int .i64 (sumH (x :: hs) : Int)) ∧ Below W.heap.size W w') : Calls Tryd.prog 7 #[.slice (some ⟨tb, to, none⟩) 32 cap, .int .i64 (bn : Int)] w fun e w' => e = .returned (.bool true) ∧ Below w.heap.size w w' := by
  have HS := Lib.hid (fun W (hW : Below w.heap.size w W) => shown11 W aA aS aR (hV.below hW))
  have HC := Lib.hid (fun W => cut_32 (some ⟨tb, to, none⟩) cap W hl hm)
  have HO := Lib.hid (fun W (hW : Below w.heap.size w W) => hO W hW)
  have HA := Lib.hid (fun W (hW : Below w.heap.size w W) => hA W hW)
  have HH := Lib.hid (fun W (hW : Below w.heap.size w W) => hH W hW)
  have HM := Lib.hid (fun W (y : Nat × Nat) (hy : y.1 < y.2 ∧ y.2 ≤ 32) => room_t (bn : Int) (4096 * (bn : Int) + (y.1 : Int) * 128) (4096 * (bn : Int) + (y.2 : Int) * 128) W (.inr (mk_in (B := (bn : Int)) (by omega) hy)))
  have hx9 := hb x (by simp)
  have HBn := Lib.hid (fun y (hy : y ∈ hs) => hb y (by simp [hy]))
  have hsm := roomS_sum (x :: hs) hb
  have hle := roomS_le (x :: hs) hb
  have HSM := Lib.hid hsm
  have hlen2 : hs.length < 16 := by simp at hlen; omega
  have HLE := Lib.hid (fun k => roomS_le ((x :: hs).take k) (fun y hy => hb y (List.mem_of_mem_take hy)))
  clear hV hl hm hO hA hH hsm hb hlen hle
  obtain ⟨sh, hsh⟩ : ∃ s, sumH (x :: hs) = s := ⟨_, rfl⟩
  rw [hsh] at HH HSM
  have hsb : (sh : Int) * 128 ≤ 131072 := by have h1 := HSM.out; have h2 := (HLE.out (hs.length + 1)).2; rw [List.take_of_length_le (by simp)] at h2; simp at h2; omega
  clear hsh
  have HB := Lib.hid (Below.refl w.heap.size w)
  go_enter Tryd.func7, Tryd.ntmps7
  go_wp2_with fail
  ((with_reducible refine (HS.out w HB.out).mono ?_))
  rintro e u1 ⟨rfl, hb⟩
  have HB := Lib.hid (bstep HB.out hb)
  clear hb
  go_wp2_with fail
  ((with_reducible refine (HC.out u1).mono ?_))
  rintro e w' ⟨rfl, rfl⟩
  go_wp2_with fail
  ((with_reducible refine (HO.out u1 HB.out).mono ?_))
  rintro e u2 ⟨rfl, hb⟩
  have HB := Lib.hid (bstep HB.out hb)
  clear hb
  have HB := Lib.hid (bel_al HB.out (.cells #[.int .i64 (bn : Int), .int .i64 (4096 * (bn : Int) + (x.1 : Int) * 128), .int .i64 (4096 * (bn : Int) + (x.2 : Int) * 128)] 23))
  have KC := Lib.hid (Blk.new u2 #[.int .i64 (bn : Int), .int .i64 (4096 * (bn : Int) + (x.1 : Int) * 128), .int .i64 (4096 * (bn : Int) + (x.2 : Int) * 128)] 23)
  go_wp2_with fail
  generalize u2.alloc (.cells #[.int .i64 (bn : Int), .int .i64 (4096 * (bn : Int) + (x.1 : Int) * 128), .int .i64 (4096 * (bn : Int) + (x.2 : Int) * 128)] 23) = v3 at HB KC ⊢
  ((with_reducible refine (HM.out v3 x hx9).mono ?_))
  rintro e u4 ⟨rfl, hb⟩
  have HB := Lib.hid (bstep HB.out hb)
  have KC := Lib.hid (KC.out.below' hb)
  clear hb
  have ltKC := KC.out.lt
  have cKC0 : u4.cell? ⟨u2.heap.size, 0, none⟩ = some (.int .i64 (bn : Int)) := KC.out.cell rfl
  have cKC1 : u4.cell? ⟨u2.heap.size, 1, none⟩ = some (.int .i64 (4096 * (bn : Int) + (x.1 : Int) * 128)) := KC.out.cell rfl
  have cKC2 : u4.cell? ⟨u2.heap.size, 2, none⟩ = some (.int .i64 (4096 * (bn : Int) + (x.2 : Int) * 128)) := KC.out.cell rfl
  go_wp2_with fail
  clear ltKC cKC0 cKC1 cKC2
  ((with_reducible refine (HA.out u4 HB.out).mono ?_))
  rintro e u5 ⟨lv, rfl, hrow, hb⟩
  have HB := Lib.hid (bstep HB.out hb)
  have KC := Lib.hid (KC.out.below' hb)
  clear hb
  obtain ⟨q, c, rfl⟩ := own_sl hrow
  have hrw := Lib.hid hrow
  clear hrow
  go_wp2
  go_loopw [8, 10] (fun s8 s10 wr => ∃ k : Nat, k ≤ hs.length ∧ s10 = .int .i64 (k : Int) ∧ s8 = .int .i64 (roomS ((x :: hs).take (k + 1))) ∧ Below u5.heap.size u5 wr) (fun _ s10 _ => hs.length - (intOf s10).toNat)
  case atStart => exact ⟨0, by omega, rfl, by simp [roomS]; omega, Below.refl _ _⟩
  case round =>
    obtain ⟨k, hk, rfl, rfl, hb⟩ := hrel
    have HBw := Lib.hid hb
    clear hb
    have hL1 := HLE.out (k + 1)
    have hL3 : (((x :: hs).take (k + 1)).length : Int) ≤ 17 := by simp; omega
    by_cases hlt : k < hs.length
    · have b0 : decide ((k : Int) < (hs.length : Int)) = true := by simp; omega
      have b0' : decide (k < hs.length) = true := by simpa using hlt
      have hy : hs[k]? = some hs[k] := List.getElem?_eq_getElem hlt
      generalize hs[k] = y at hy
      have hyb := HBn.out y (List.mem_of_getElem? hy)
      have hst := roomS_take (x :: hs) (k + 1) y (by simpa using hy)
      have HST := Lib.hid hst
      obtain ⟨gb, rfl, _, d0, d1, d2⟩ := cur_cells hrw.out k y hy
      have d0 := cell_below d0 HBw.out
      have d1 := cell_below d1 HBw.out
      have d2 := cell_below d2 HBw.out
      have ik : (0 : Int) ≤ (k : Int) := by omega
      have HMk := Lib.hid (HM.out wr y hyb)
      have hyw : (4096 * (bn : Int) + (y.2 : Int) * 128 - (4096 * (bn : Int) + (y.1 : Int) * 128)) = ((y.2 : Int) - (y.1 : Int)) * 128 := by omega
      rw [hyw] at HMk
      clear hst hy hyw
      generalize roomS ((x :: hs).take (k + 1)) = ra at HST hL1 ⊢
      go_wp2_with fail
      ((with_reducible refine HMk.out.mono ?_))
      rintro e w9 ⟨rfl, hb⟩
      have HB9 := Lib.hid (bstep HBw.out hb)
      clear hb
      go_wp2
      go_roundw
      case rel => exact ⟨k + 1, by omega, by go_num, by rw [HST.out], HB9.out⟩
      case measure => simp [intOf]; omega
    · obtain rfl : k = hs.length := by omega
      have b0 : decide ((hs.length : Int) < (hs.length : Int)) = false := by simp
      have hall : roomS ((x :: hs).take (hs.length + 1)) = 128 * (sh : Int) := by rw [List.take_of_length_le (by simp)]; exact HSM.out
      rw [hall]
      clear hall hL1
      have b16 : decide ((hs.length : Int) < 16) = true := by simp; omega
      have HBt := Lib.hid (bstep HB.out HBw.out)
      go_wp2_with fail
      ((with_reducible refine (HH.out wr HBt.out).mono ?_))
      rintro e w9 ⟨rfl, hb⟩
      have HB9 := Lib.hid (bstep HBt.out hb)
      clear hb
      go_wp2
      go_ret
      exact ⟨rfl, HB9.out⟩
theorem lawBumpRooms (p : Option Addr) (n cap : Nat) (B : Int) (w : World) (aA aS aR : Addr) (hV : AV w aA aS aR) (hl : n ≤ cap) (hm : cap ≤ maxLen) (hI : IC w p n) (_ : InI B) : Calls Tryd.prog 7 #[.slice p n cap, .int .i64 B] w fun e w' => e = .returned (.bool true) ∧ Below w.heap.size w w' := by
  by_cases hB : 0 ≤ B ∧ B < 32
  · rcases tabOr_of (cap := cap) hI with h | ⟨b, o, z, rfl, rfl, hT, hr⟩
    · refine lawBumpRooms_full0 p n cap B w aA aS aR hV hl hm hB (fun W hW => ?_) (fun W hW => room_no _ W (h.below hW))
      have h2 := open_any _ B 0 W _ ((no_nx h).below hW) no_in aA aS aR (hV.below hW)
      have e : openC B (none : Option (Nat × Nat)) = none := by unfold openC; split <;> rfl
      rw [e] at h2
      exact h2
    · cases hh : holesZ (keptZ z) 0 with
      | nil =>
        refine lawBumpRooms_full0 _ 32 cap B w aA aS aR hV hl hm hB (fun W hW => ?_) (fun W hW => ?_)
        · have h2 := open_any _ B 0 W _ ((tab_nx (cap := cap) hT hr).below hW) (tab_in _) aA aS aR (hV.below hW)
          rw [show line0 0 = 0 from rfl, hh, List.head?_nil, openC, if_pos hB, Option.map_none] at h2
          exact h2
        · have h2 := room_yes b o cap z W (hT.below hW) hr
          rw [hh] at h2
          exact h2
      | cons x rest =>
        obtain ⟨bn, rfl⟩ : ∃ bn : Nat, B = bn := ⟨B.toNat, by omega⟩
        have hfew := holes_few (keptZ z) 32 0 (by omega)
        rw [hh] at hfew
        refine lawBumpRooms_some b o cap w aA aS aR hV bn x rest (by omega) (fun y hy => holesZ_bounds (keptZ z) 32 0 (by omega) y (by rw [hh]; exact hy)) (by omega) hl hm (fun W hW => ?_) (fun W hW => ?_) (fun W hW => ?_)
        · have h2 := open_any _ (bn : Int) 0 W _ ((tab_nx (cap := cap) hT hr).below hW) (tab_in _) aA aS aR (hV.below hW)
          rw [show line0 0 = 0 from rfl, hh, List.head?_cons, openC, if_pos hB, Option.map_some] at h2
          exact h2
        · exact ball_any _ 32 cap (bn : Int) _ _ W (FT (keptZ z)) ((tab_nx (cap := cap) hT hr).below hW) (tab_in _) aA aS aR (hV.below hW) (bn : Int) rest (chn_first (keptZ z) (bn : Int) hB x rest 0 hh) (fun _ => hB)
        · have h2 := room_yes b o cap z W (hT.below hW) hr
          rw [hh] at h2
          exact h2
  · have hO : ∀ W, Below w.heap.size w W → _ := fun W hW => open_bad (.slice p (min n 34) cap) B 0 W aA aS aR (hV.below hW) hB
    by_cases h1 : B < 0
    · exact lawBumpRooms_far0 p n cap B w aA aS aR hV hl hm h1 hO
    · exact lawBumpRooms_far1 p n cap B w aA aS aR hV hl hm (by omega) hO
end Go.Proofs.YtanccoahpcfbnaaDoor
