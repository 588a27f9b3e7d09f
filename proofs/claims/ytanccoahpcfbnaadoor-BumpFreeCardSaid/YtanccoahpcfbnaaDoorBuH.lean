/-
  selionlaw11.BumpFree, for every input.
-/
import Derived.Test.YtanccoahpcfbnaaDoorBuG
import Derived.Test.YtanccoahpcfbnaaDoorHoleKept
import Derived.Test.YtanccoahpcfbnaaDoorAdS
namespace Go.Proofs.YtanccoahpcfbnaaDoor
open Go.RowKit Go.Lib Go.Shelf Ad
attribute [local go_sem] Oper.semAt_some
set_option linter.unusedSimpArgs false
set_option linter.unusedVariables false

/-- What the list is to hole.Next. -/
theorem nx_of {w : World} {p : Option Addr} {n cap : Nat} (h : TabOr w p n cap) : ∃ F, NxAt w (.slice p (min n 34) cap) F ∧ InL F := by
  rcases h with h | ⟨b, o, z, rfl, rfl, hT, hr⟩
  · exact ⟨_, no_nx h, no_in⟩
  · exact ⟨_, tab_nx hT hr, tab_in _⟩
set_option maxRecDepth 100000 in
set_option maxHeartbeats 2000000 in
theorem lawBumpFree_none (p : Option Addr) (n cap : Nat) (B l m : Int) (w : World) (aA aS aR : Addr) (hV : AV w aA aS aR) (hl : n ≤ cap) (hm : cap ≤ maxLen) (hO : ∀ W, Below w.heap.size w W → Calls Tryd.prog 20 #[.slice p (min n 34) cap, .int .i64 B, .int .i64 l] W fun e w' => e = .returned (.tuple #[.agg #[.int .i64 0, .int .i64 0, .int .i64 0], .bool false]) ∧ Below W.heap.size W w') : Calls Tryd.prog 5 #[.slice p n cap, .int .i64 B, .int .i64 l, .int .i64 m] w fun e w' => e = .returned (.bool true) ∧ Below w.heap.size w w' := by
  have HS := Lib.hid (fun W (hW : Below w.heap.size w W) => shown11 W aA aS aR (hV.below hW))
  have HC := Lib.hid (fun W => cut_any p n cap W hl hm)
  have HO := Lib.hid (fun W (hW : Below w.heap.size w W) => hO W hW)
  clear hV hl hm hO
  have HB := Lib.hid (Below.refl w.heap.size w)
  go_enter Tryd.func5, Tryd.ntmps5
  go_wp2_with fail
  ((with_reducible refine (HS.out w HB.out).mono ?_))
  rintro e u1 ⟨rfl, hb⟩
  have HB := Lib.hid (bstep HB.out hb)
  clear hb
  go_wp2_with fail
  ((with_reducible refine (HC.out u1).mono ?_))
  rintro e w' ⟨rfl, rfl⟩
  go_wp2_with fail
  ((with_reducible refine (HO.out u1 HB.out).mono ?_))
  rintro e u2 ⟨rfl, hb⟩
  have HB := Lib.hid (bstep HB.out hb)
  clear hb
  go_wp2
  go_ret
  exact ⟨rfl, bel_al HB.out _⟩
set_option maxRecDepth 100000 in
set_option maxHeartbeats 2000000 in
theorem lawBumpFree_some (tb to cap : Nat) (l m : Int) (w : World) (aA aS aR : Addr) (hV : AV w aA aS aR) (bn x1 x2 : Nat) (P Q : Int) (hP : P = 4096 * (bn : Int) + (x1 : Int) * 128) (hQ : Q = 4096 * (bn : Int) + (x2 : Int) * 128) (hbn : bn < 32) (hx1 : x1 < x2) (hx2 : x2 ≤ 32) (hlx : l ≤ (x1 : Int)) (hl : 32 ≤ cap) (hm : cap ≤ maxLen) (hO : ∀ W, Below w.heap.size w W → Calls Tryd.prog 20 #[.slice (some ⟨tb, to, none⟩) 32 cap, .int .i64 (bn : Int), .int .i64 l] W fun e w' => e = .returned (.tuple #[.agg #[.int .i64 (bn : Int), .int .i64 P, .int .i64 Q], .bool true]) ∧ Below W.heap.size W w') (hK : ∀ W, Below w.heap.size w W → ∀ i : Nat, x1 ≤ i → i < x2 → Calls Tryd.prog 22 #[.slice (some ⟨tb, to, none⟩) 32 cap, .int .i64 (i : Int)] W fun e w' => e = .returned (.bool false) ∧ Below W.heap.size W w') : Calls Tryd.prog 5 #[.slice (some ⟨tb, to, none⟩) 32 cap, .int .i64 (bn : Int), .int .i64 l, .int .i64 m] w fun e w' => e = .returned (.bool true) ∧ Below w.heap.size w w' := by
  have HS := Lib.hid (fun W (hW : Below w.heap.size w W) => shown11 W aA aS aR (hV.below hW))
  have HC := Lib.hid (fun W => cut_32 (some ⟨tb, to, none⟩) cap W hl hm)
  have HO := Lib.hid (fun W (hW : Below w.heap.size w W) => hO W hW)
  obtain ⟨B', A', L', a, r, hT1, hR1⟩ : ∃ B' A' L' a r, TkAt 10 w (bn : Int) P Q m B' A' L' a r ∧ (¬ m < 1 → ¬ 128 < m → r = true) := by
    by_cases h : okT (bn : Int) P Q m
    · exact ⟨_, _, _, _, true, fun W hW => take_yes (bn : Int) P Q m W aA aS aR (hV.below hW) h, fun _ _ => rfl⟩
    · refine ⟨_, _, _, _, false, fun W hW => take_no (bn : Int) P Q m W aA aS aR (hV.below hW) h, fun h1 h2 => ?_⟩
      have hin : inBk (bn : Int) P Q := by rw [hP, hQ]; unfold inBk; omega
      have hr : rightC (bn : Int) P Q := .inr hin
      exact absurd ⟨hr, by omega, by rw [roomC, if_pos hr]; unfold rnd; omega⟩ h
  have T1 := Lib.hid hT1
  have hin : inBk (bn : Int) P Q := by rw [hP, hQ]; unfold inBk; omega
  have HM := Lib.hid (fun W => room_t (bn : Int) P Q W (.inr hin))
  have HR := Lib.hid (fun W => right_t (bn : Int) P Q W (.inr hin))
  have hsp : ∀ W, Below w.heap.size w W → _ := fun W hW => span_yes P (Q - P) W aA aS aR (hV.below hW) (by omega) (by omega) (by omega) (by omega)
  rw [show P / 128 = ((32 * bn + x1 : Nat) : Int) by omega, show (P + (Q - P) - 1) / 128 = ((32 * bn + x2 - 1 : Nat) : Int) by omega] at hsp
  have SP := Lib.hid hsp
  have hr1 := hR1
  have HR1 := Lib.hid hr1
  have HK := Lib.hid hK
  have hf0 : ((32 * bn + x1 : Nat) : Int) % 32 = (x1 : Int) := by omega
  obtain ⟨f0, hf⟩ : ∃ f0, 32 * bn + x1 = f0 := ⟨_, rfl⟩
  obtain ⟨t0, ht⟩ : ∃ t0, 32 * bn + x2 - 1 = t0 := ⟨_, rfl⟩
  rw [hf] at SP hf0
  rw [ht] at SP
  have hb1 : f0 ≤ t0 := by omega
  have hb2 : t0 ≤ 1024 := by omega
  have HF1 := Lib.hid (show ∀ k, f0 ≤ k → k ≤ t0 → x1 ≤ k % 32 ∧ k % 32 < x2 by intro k k1 k2; omega)
  have hge : decide (l ≤ (f0 : Int) % 32) = true := by simp; omega
  have HFm := Lib.hid hf0
  clear hV hl hm hO hT1 hsp hr1 hK hR1 hf ht hf0 hin hP hQ hlx
  have e0 : (0 : Int) ≤ (f0 : Int) := by omega
  have HB := Lib.hid (Below.refl w.heap.size w)
  go_enter Tryd.func5, Tryd.ntmps5
  go_wp2_with fail
  ((with_reducible refine (HS.out w HB.out).mono ?_))
  rintro e u1 ⟨rfl, hb⟩
  have HB := Lib.hid (bstep HB.out hb)
  clear hb
  go_wp2_with fail
  ((with_reducible refine (HC.out u1).mono ?_))
  rintro e w' ⟨rfl, rfl⟩
  go_wp2_with fail
  ((with_reducible refine (HO.out u1 HB.out).mono ?_))
  rintro e u2 ⟨rfl, hb⟩
  have HB := Lib.hid (bstep HB.out hb)
  clear hb
  go_wp2
  have HB := Lib.hid (bel_al HB.out (.cells #[.int .i64 (bn : Int), .int .i64 P, .int .i64 Q] 23))
  have KC := Lib.hid (Blk.new u2 #[.int .i64 (bn : Int), .int .i64 P, .int .i64 Q] 23)
  generalize u2.alloc (.cells #[.int .i64 (bn : Int), .int .i64 P, .int .i64 Q] 23) = v3 at HB KC ⊢
  have rKC0 : v3.cell? ⟨u2.heap.size, 0, none⟩ = some (.int .i64 (bn : Int)) := KC.out.cell rfl
  have rKC1 : v3.cell? ⟨u2.heap.size, 1, none⟩ = some (.int .i64 P) := KC.out.cell rfl
  have rKC2 : v3.cell? ⟨u2.heap.size, 2, none⟩ = some (.int .i64 Q) := KC.out.cell rfl
  go_region_held3 (fun w' => w'.cell? ⟨u2.heap.size, 0, none⟩ = some (.int .i64 (bn : Int)) ∧ w'.cell? ⟨u2.heap.size, 1, none⟩ = some (.int .i64 P) ∧ w'.cell? ⟨u2.heap.size, 2, none⟩ = some (.int .i64 Q))
    (with_reducible first | exact ⟨rKC0, rKC1, rKC2⟩ | exact ⟨cell_dr rKC0, cell_dr rKC1, cell_dr rKC2⟩ | exact ⟨rKC0_0, rKC1_0, rKC2_0⟩ | exact ⟨rKC0_1, rKC1_1, rKC2_1⟩)
    (first
        | (go_at_call 14; ((with_reducible refine (HM.out v3.drew).mono ?_)); rintro e x3_0 ⟨rfl, hb⟩; have rKC0_0 := cell_below (cell_dr rKC0) hb; have rKC1_0 := cell_below (cell_dr rKC1) hb; have rKC2_0 := cell_below (cell_dr rKC2) hb; have KC_3_0 := Lib.hid (KC.out.drew.below' hb); have HX3_0 := Lib.hid (bstep (bel_dr HB.out) hb); clear hb)
        | (go_at_call 21; ((with_reducible refine (SP.out x3_0 HX3_0.out).mono ?_)); rintro e x3_1 ⟨rfl, hb⟩; have rKC0_1 := cell_below rKC0_0 hb; have rKC1_1 := cell_below rKC1_0 hb; have rKC2_1 := cell_below rKC2_0 hb; have KC_3_1 := Lib.hid (KC_3_0.out.below' hb); have HX3_1 := Lib.hid (bstep HX3_0.out hb); clear hb))
  have KC := KC_3_1
  have HB := HX3_1
  clear rKC0 rKC1 rKC2 rKC0_0 rKC0_1 rKC1_0 rKC1_1 rKC2_0 rKC2_1
  go_wp2
  go_loopw [15] (fun c wr => ∃ k : Nat, f0 ≤ k ∧ k ≤ t0 + 1 ∧ c = .int .i64 (k : Int) ∧ Blk wr (u2.heap.size) #[.int .i64 (bn : Int), .int .i64 P, .int .i64 Q] 23 ∧ Below w.heap.size w wr) (fun c _ => t0 + 1 - (intOf c).toNat)
  case atStart => exact ⟨f0, by omega, by omega, rfl, KC.out, HB.out⟩
  case round =>
    obtain ⟨k, hk1, hk2, rfl, bK, hb⟩ := hrel
    have KC := Lib.hid bK
    have HB := Lib.hid hb
    clear bK hb
    by_cases hlt : k ≤ t0
    · have b0 : decide ((k : Int) ≤ (t0 : Int)) = true := by simp; omega
      have b0' : decide (k ≤ t0) = true := by simpa using hlt
      obtain ⟨h7, h8⟩ := HF1.out k hk1 hlt
      have hKk := HK.out wr HB.out (k % 32) h7 h8
      rw [show ((k % 32 : Nat) : Int) = (k : Int) % 32 by omega] at hKk
      have HKk := Lib.hid hKk
      clear hKk h7 h8
      go_wp2_with fail
      ((with_reducible refine (HKk.out).mono ?_))
      rintro e u51 ⟨rfl, hb⟩
      have HB := Lib.hid (bstep HB.out hb)
      have KC := Lib.hid (KC.out.below' hb)
      clear hb
      go_wp2
      go_roundw
      case rel => exact ⟨k + 1, by omega, by omega, by go_num, KC.out, HB.out⟩
      case measure => simp [intOf]; omega
    · obtain rfl : k = t0 + 1 := by omega
      have b0 : decide (((t0 + 1 : Nat) : Int) ≤ (t0 : Int)) = false := by simp; omega
      have b0' : decide (t0 + 1 ≤ t0) = false := by simp
      have ltKC := KC.out.lt
      have cKC0 : wr.cell? ⟨u2.heap.size, 0, none⟩ = some (.int .i64 (bn : Int)) := KC.out.cell rfl
      have cKC1 : wr.cell? ⟨u2.heap.size, 1, none⟩ = some (.int .i64 P) := KC.out.cell rfl
      have cKC2 : wr.cell? ⟨u2.heap.size, 2, none⟩ = some (.int .i64 Q) := KC.out.cell rfl
      go_wp2_with fail
      clear ltKC cKC0 cKC1 cKC2
      ((with_reducible refine (T1.out.call wr HB.out).mono ?_))
      rintro e u61 ⟨rfl, hb⟩
      have HB := Lib.hid (bstep HB.out hb)
      have KC := Lib.hid (KC.out.below' hb)
      clear hb
      have ltKC := KC.out.lt
      have cKC0 : u61.cell? ⟨u2.heap.size, 0, none⟩ = some (.int .i64 (bn : Int)) := KC.out.cell rfl
      have cKC1 : u61.cell? ⟨u2.heap.size, 1, none⟩ = some (.int .i64 P) := KC.out.cell rfl
      have cKC2 : u61.cell? ⟨u2.heap.size, 2, none⟩ = some (.int .i64 Q) := KC.out.cell rfl
      have HB := Lib.hid (bel_al HB.out (.cells #[.int .i64 B', .int .i64 A', .int .i64 L'] 23))
      have KC := Lib.hid (KC.out.alloc (.cells #[.int .i64 B', .int .i64 A', .int .i64 L'] 23))
      have KE := Lib.hid (Blk.new u61 #[.int .i64 B', .int .i64 A', .int .i64 L'] 23)
      go_wp2_with fail
      generalize u61.alloc (.cells #[.int .i64 B', .int .i64 A', .int .i64 L'] 23) = v62 at HB KC KE ⊢
      clear ltKC cKC0 cKC1 cKC2
      ((with_reducible refine (HR.out v62).mono ?_))
      rintro e u63 ⟨rfl, hb⟩
      have HB := Lib.hid (bstep HB.out hb)
      have KC := Lib.hid (KC.out.below' hb)
      have KE := Lib.hid (KE.out.below' hb)
      clear hb
      by_cases n1 : m < 1
      · have c1 : decide (m < 1) = true := by simpa using n1
        go_wp2
        go_ret
        exact ⟨rfl, HB.out⟩
      · have c1 : decide (m < 1) = false := by simpa using n1
        by_cases n2 : 128 < m
        · have c2 : decide (128 < m) = true := by simpa using n2
          go_wp2
          go_ret
          exact ⟨rfl, HB.out⟩
        · have c2 : decide (128 < m) = false := by simpa using n2
          obtain rfl := HR1.out (by omega) (by omega)
          go_wp2
          go_ret
          exact ⟨rfl, HB.out⟩
theorem lawBumpFree (p : Option Addr) (n cap : Nat) (B l m : Int) (w : World) (aA aS aR : Addr) (hV : AV w aA aS aR) (hl : n ≤ cap) (hm : cap ≤ maxLen) (hI : IC w p n) (_ : InI B) (_ : InI l) (_ : InI m) : Calls Tryd.prog 5 #[.slice p n cap, .int .i64 B, .int .i64 l, .int .i64 m] w fun e w' => e = .returned (.bool true) ∧ Below w.heap.size w w' := by
  rcases tabOr_of (cap := cap) hI with h | ⟨b, o, z, rfl, rfl, hT, hr⟩
  · refine lawBumpFree_none p n cap B l m w aA aS aR hV hl hm fun W hW => ?_
    have h2 := open_any _ B l W _ ((no_nx h).below hW) no_in aA aS aR (hV.below hW)
    have e : openC B (none : Option (Nat × Nat)) = none := by unfold openC; split <;> rfl
    rw [e] at h2
    exact h2
  · have h34 : min 32 34 = 32 := rfl
    by_cases hB : 0 ≤ B ∧ B < 32
    · cases hh : holesZ (keptZ z) (line0 l) with
      | nil =>
        refine lawBumpFree_none _ 32 cap B l m w aA aS aR hV hl hm fun W hW => ?_
        have h2 := open_any _ B l W _ ((tab_nx (cap := cap) hT hr).below hW) (tab_in _) aA aS aR (hV.below hW)
        rw [hh, List.head?_nil, openC, if_pos hB, Option.map_none] at h2
        exact h2
      | cons x rest =>
        obtain ⟨x1, x2⟩ := x
        obtain ⟨k1, k2, k3, k4, k5, _⟩ := holesZ_cons (keptZ z) 32 (line0 l) (by omega) _ rest hh
        simp only at k1 k2 k3 k5
        obtain ⟨bn, rfl⟩ : ∃ bn : Nat, B = bn := ⟨B.toNat, by omega⟩
        refine lawBumpFree_some b o cap l m w aA aS aR hV bn x1 x2 _ _ rfl rfl (by omega) k2 k3 (by unfold line0 at k1; omega) hl hm (fun W hW => ?_) (fun W hW i h1 h2 => Kept_f i b o cap z W (hT.below hW) hr (by omega) (k5 i h1 h2))
        have h2 := open_any _ (bn : Int) l W _ ((tab_nx (cap := cap) hT hr).below hW) (tab_in _) aA aS aR (hV.below hW)
        rw [hh, List.head?_cons, openC, if_pos hB, Option.map_some] at h2
        exact h2
    · refine lawBumpFree_none _ 32 cap B l m w aA aS aR hV hl hm fun W hW => ?_
      exact open_bad _ B l W aA aS aR (hV.below hW) hB
end Go.Proofs.YtanccoahpcfbnaaDoor
