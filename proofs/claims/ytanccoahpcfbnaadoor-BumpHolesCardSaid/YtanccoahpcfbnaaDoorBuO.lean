/-
  selionlaw11.BumpHoles, for every input.
-/
import Derived.Test.YtanccoahpcfbnaaDoorBuK
import Derived.Test.YtanccoahpcfbnaaDoorBuE
import Derived.Test.YtanccoahpcfbnaaDoorLaidB
import Derived.Test.YtanccoahpcfbnaaDoorApp
namespace Go.Proofs.YtanccoahpcfbnaaDoor
open Go.RowKit Go.Lib Go.Shelf Ad
attribute [local go_sem] Oper.semAt_some
set_option linter.unusedSimpArgs false
set_option linter.unusedVariables false

theorem hl_nil (W : World) : HL W (.slice none 0 0) [] := ⟨none, 0, rfl, by simp, fun i x hx => by simp at hx⟩
set_option maxRecDepth 100000 in
set_option maxHeartbeats 4000000 in
theorem lawBumpHoles_none (p : Option Addr) (n cap : Nat) (B : Int) (w : World) (aA aS aR : Addr) (hV : AV w aA aS aR) (hl : n ≤ cap) (hm : cap ≤ maxLen) (hN : NoTab w (.slice p (min n 34) cap)) (hO : ∀ W, Below w.heap.size w W → Calls Tryd.prog 20 #[.slice p (min n 34) cap, .int .i64 B, .int .i64 0] W fun e w' => e = .returned (.tuple #[.agg #[.int .i64 0, .int .i64 0, .int .i64 0], .bool false]) ∧ Below W.heap.size W w') : Calls Tryd.prog 8 #[.slice p n cap, .int .i64 B] w fun e w' => e = .returned (.bool true) ∧ Below w.heap.size w w' := by
  have HS := Lib.hid (fun W (hW : Below w.heap.size w W) => shown11 W aA aS aR (hV.below hW))
  have HC := Lib.hid (fun W => cut_any p n cap W hl hm)
  have HO := Lib.hid (fun W (hW : Below w.heap.size w W) => hO W hW)
  have HA := Lib.hid (fun W (hW : Below w.heap.size w W) => all_no _ W (hN.below hW))
  clear hV hl hm hO hN
  have HB := Lib.hid (Below.refl w.heap.size w)
  go_enter Tryd.func8, Tryd.ntmps8
  go_wp2_with fail
  ((with_reducible refine (HS.out w HB.out).mono ?_))
  rintro e u1 ⟨rfl, hb⟩
  have HB := Lib.hid (bstep HB.out hb)
  clear hb
  go_wp2_with fail
  ((with_reducible refine (HC.out u1).mono ?_))
  rintro e w' ⟨rfl, rfl⟩
  go_wp2_with fail
  ((with_reducible refine (HA.out u1 HB.out).mono ?_))
  rintro e u2 ⟨rfl, hb⟩
  have HB := Lib.hid (bstep HB.out hb)
  clear hb
  go_wp2_with fail
  ((with_reducible refine (HO.out u2 HB.out).mono ?_))
  rintro e u3 ⟨rfl, hb⟩
  have HB := Lib.hid (bstep HB.out hb)
  clear hb
  go_wp2
  go_ret
  exact ⟨rfl, bel_al HB.out _⟩
set_option maxRecDepth 100000 in
set_option maxHeartbeats 4000000 in
theorem lawBumpHoles_far0 (tb to cap : Nat) (B : Int) (ps : List (Nat × Nat)) (w : World) (aA aS aR : Addr) (hV : AV w aA aS aR) (hl : 32 ≤ cap) (hm : cap ≤ maxLen) (hB : B < 0) (hA : ∀ W, Below w.heap.size w W → Calls Tryd.prog 30 #[.slice (some ⟨tb, to, none⟩) 32 cap] W (AllH W ps)) (hO : ∀ W, Below w.heap.size w W → Calls Tryd.prog 20 #[.slice (some ⟨tb, to, none⟩) 32 cap, .int .i64 B, .int .i64 0] W fun e w' => e = .returned (.tuple #[.agg #[.int .i64 0, .int .i64 0, .int .i64 0], .bool false]) ∧ Below W.heap.size W w') : Calls Tryd.prog 8 #[.slice (some ⟨tb, to, none⟩) 32 cap, .int .i64 B] w fun e w' => e = .returned (.bool true) ∧ Below w.heap.size w w' := by
  have HS := Lib.hid (fun W (hW : Below w.heap.size w W) => shown11 W aA aS aR (hV.below hW))
  have HC := Lib.hid (fun W => cut_32 (some ⟨tb, to, none⟩) cap W hl hm)
  have HO := Lib.hid (fun W (hW : Below w.heap.size w W) => hO W hW)
  have HA := Lib.hid (fun W (hW : Below w.heap.size w W) => hA W hW)
  have c1 : decide (B < 0) = true := by simpa using hB
  clear hV hl hm hO hA
  have HB := Lib.hid (Below.refl w.heap.size w)
  go_enter Tryd.func8, Tryd.ntmps8
  go_wp2_with fail
  ((with_reducible refine (HS.out w HB.out).mono ?_))
  rintro e u1 ⟨rfl, hb⟩
  have HB := Lib.hid (bstep HB.out hb)
  clear hb
  go_wp2_with fail
  ((with_reducible refine (HC.out u1).mono ?_))
  rintro e w' ⟨rfl, rfl⟩
  go_wp2_with fail
  ((with_reducible refine (HA.out u1 HB.out).mono ?_))
  rintro e u2 ⟨gA, rfl, hH, hb⟩
  have HB := Lib.hid (bstep HB.out hb)
  clear hH
  clear hb
  go_wp2_with fail
  ((with_reducible refine (HO.out u2 HB.out).mono ?_))
  rintro e u3 ⟨rfl, hb⟩
  have HB := Lib.hid (bstep HB.out hb)
  clear hb
  go_wp2
  go_ret
  exact ⟨rfl, bel_al HB.out _⟩
set_option maxRecDepth 100000 in
set_option maxHeartbeats 4000000 in
theorem lawBumpHoles_far1 (tb to cap : Nat) (B : Int) (ps : List (Nat × Nat)) (w : World) (aA aS aR : Addr) (hV : AV w aA aS aR) (hl : 32 ≤ cap) (hm : cap ≤ maxLen) (hB : 31 < B) (hA : ∀ W, Below w.heap.size w W → Calls Tryd.prog 30 #[.slice (some ⟨tb, to, none⟩) 32 cap] W (AllH W ps)) (hO : ∀ W, Below w.heap.size w W → Calls Tryd.prog 20 #[.slice (some ⟨tb, to, none⟩) 32 cap, .int .i64 B, .int .i64 0] W fun e w' => e = .returned (.tuple #[.agg #[.int .i64 0, .int .i64 0, .int .i64 0], .bool false]) ∧ Below W.heap.size W w') : Calls Tryd.prog 8 #[.slice (some ⟨tb, to, none⟩) 32 cap, .int .i64 B] w fun e w' => e = .returned (.bool true) ∧ Below w.heap.size w w' := by
  have HS := Lib.hid (fun W (hW : Below w.heap.size w W) => shown11 W aA aS aR (hV.below hW))
  have HC := Lib.hid (fun W => cut_32 (some ⟨tb, to, none⟩) cap W hl hm)
  have HO := Lib.hid (fun W (hW : Below w.heap.size w W) => hO W hW)
  have HA := Lib.hid (fun W (hW : Below w.heap.size w W) => hA W hW)
  have c1 : decide (B < 0) = false := by simp; omega
  have c2 : decide (31 < B) = true := by simpa using hB
  clear hV hl hm hO hA
  have HB := Lib.hid (Below.refl w.heap.size w)
  go_enter Tryd.func8, Tryd.ntmps8
  go_wp2_with fail
  ((with_reducible refine (HS.out w HB.out).mono ?_))
  rintro e u1 ⟨rfl, hb⟩
  have HB := Lib.hid (bstep HB.out hb)
  clear hb
  go_wp2_with fail
  ((with_reducible refine (HC.out u1).mono ?_))
  rintro e w' ⟨rfl, rfl⟩
  go_wp2_with fail
  ((with_reducible refine (HA.out u1 HB.out).mono ?_))
  rintro e u2 ⟨gA, rfl, hH, hb⟩
  have HB := Lib.hid (bstep HB.out hb)
  clear hH
  clear hb
  go_wp2_with fail
  ((with_reducible refine (HO.out u2 HB.out).mono ?_))
  rintro e u3 ⟨rfl, hb⟩
  have HB := Lib.hid (bstep HB.out hb)
  clear hb
  go_wp2
  go_ret
  exact ⟨rfl, bel_al HB.out _⟩
set_option maxRecDepth 100000 in
set_option maxHeartbeats 4000000 in
theorem lawBumpHoles_full (tb to cap : Nat) (B : Int) (w : World) (aA aS aR : Addr) (hV : AV w aA aS aR) (hl : 32 ≤ cap) (hm : cap ≤ maxLen) (hB : 0 ≤ B ∧ B < 32) (hA : ∀ W, Below w.heap.size w W → Calls Tryd.prog 30 #[.slice (some ⟨tb, to, none⟩) 32 cap] W (AllH W [])) (hO : ∀ W, Below w.heap.size w W → Calls Tryd.prog 20 #[.slice (some ⟨tb, to, none⟩) 32 cap, .int .i64 B, .int .i64 0] W fun e w' => e = .returned (.tuple #[.agg #[.int .i64 0, .int .i64 0, .int .i64 0], .bool false]) ∧ Below W.heap.size W w') : Calls Tryd.prog 8 #[.slice (some ⟨tb, to, none⟩) 32 cap, .int .i64 B] w fun e w' => e = .returned (.bool true) ∧ Below w.heap.size w w' := by
  have HS := Lib.hid (fun W (hW : Below w.heap.size w W) => shown11 W aA aS aR (hV.below hW))
  have HC := Lib.hid (fun W => cut_32 (some ⟨tb, to, none⟩) cap W hl hm)
  have HO := Lib.hid (fun W (hW : Below w.heap.size w W) => hO W hW)
  have HA := Lib.hid (fun W (hW : Below w.heap.size w W) => hA W hW)
  obtain ⟨hB1, hB2⟩ := hB
  have c1 : decide (B < 0) = false := by simp; omega
  have c2 : decide (31 < B) = false := by simp; omega
  clear hV hl hm hO hA
  have HB := Lib.hid (Below.refl w.heap.size w)
  go_enter Tryd.func8, Tryd.ntmps8
  go_wp2_with fail
  ((with_reducible refine (HS.out w HB.out).mono ?_))
  rintro e u1 ⟨rfl, hb⟩
  have HB := Lib.hid (bstep HB.out hb)
  clear hb
  go_wp2_with fail
  ((with_reducible refine (HC.out u1).mono ?_))
  rintro e w' ⟨rfl, rfl⟩
  go_wp2_with fail
  ((with_reducible refine (HA.out u1 HB.out).mono ?_))
  rintro e u2 ⟨gA, rfl, hH, hb⟩
  have HB := Lib.hid (bstep HB.out hb)
  have HH := Lib.hid (show HL _ (.slice (some ⟨gA, 0, none⟩) 0 0) [] from hH); clear hH
  clear hb
  go_wp2_with fail
  ((with_reducible refine (HO.out u2 HB.out).mono ?_))
  rintro e u3 ⟨rfl, hb⟩
  have HB := Lib.hid (bstep HB.out hb)
  have HH := Lib.hid (HH.out.below hb)
  clear hb
  have HH := Lib.hid (HH.out.below ((Below.refl _ u3).alloc (Nat.le_refl _) (.cells #[.int .i64 0, .int .i64 0, .int .i64 0] 23)))
  have HB := Lib.hid (bel_al HB.out (.cells #[.int .i64 0, .int .i64 0, .int .i64 0] 23))
  have KC := Lib.hid (Blk.new u3 #[.int .i64 0, .int .i64 0, .int .i64 0] 23)
  go_wp2_with fail
  generalize u3.alloc (.cells #[.int .i64 0, .int .i64 0, .int .i64 0] 23) = v4 at HB KC HH ⊢
  ((with_reducible refine (same_yes (.slice none 0 0) (.slice (some ⟨gA, 0, none⟩) 0 0) [] v4 (hl_nil _) HH.out).mono ?_))
  rintro e u5 ⟨rfl, hb⟩
  have HB := Lib.hid (bstep HB.out hb)
  have KC := Lib.hid (KC.out.below' hb)
  have HH := Lib.hid (HH.out.below hb)
  clear hb
  go_wp2
  go_ret
  exact ⟨rfl, HB.out⟩
theorem cvals_one (B : Int) (hs : List (Nat × Nat)) : ∀ y ∈ cvals B hs, y.oneCell' = true := by
  intro y hy
  simp only [cvals, List.mem_flatMap] at hy
  obtain ⟨x, _, hx⟩ := hy
  simp at hx
  rcases hx with rfl | rfl | rfl <;> rfl
theorem Tryd.infoHole3 : (Tryd.prog.info? 53).map (fun i => (i.zero, i.size, i.bytes)) = some (some (.agg #[.int .i64 0, .int .i64 0]), 2, 16) := by kernel_rfl
theorem ex128 (b a y : Int) (h : a = 4096 * b + y * 128) (h0 : 0 ≤ y) (h1 : y ≤ 32) (hb : 0 ≤ b) : IntKind.i64.wrap ((a - 4096 * b).tdiv 128) = y := by
  rw [h, show 4096 * b + y * 128 - 4096 * b = y * 128 by omega, Int.mul_tdiv_cancel _ (by omega)]
  exact IntWalk.i64_in _ (by omega)
theorem hol_one (x y : Int) : ∀ v ∈ [Value.int .i64 x, .int .i64 y], v.oneCell' = true := by
  intro v hv
  simp at hv
  rcases hv with rfl | rfl <;> rfl
theorem own_base {w : World} {base : Nat} {e : TypeId} {size n : Nat} {v : Value} {xs : List Value} (h : w.ownsRow base e size v n xs) {k : Nat} (hk : v.ownBlock = some k) : base ≤ k := by
  rcases h.2 with ⟨rfl, _⟩ | ⟨g, cap, cur, rfl, hg, _, _⟩
  · simp [Value.ownBlock] at hk
  · simp [Value.ownBlock] at hk; omega
theorem hv_take (ps : List (Nat × Nat)) (k : Nat) (y : Nat × Nat) (h : ps[k]? = some y) : hvals (ps.take (k + 1)) = hvals (ps.take k) ++ [.int .i64 (y.1 : Int), .int .i64 (y.2 : Int)] := by
  obtain ⟨h1, h2⟩ := List.getElem?_eq_some_iff.1 h
  rw [List.take_succ_eq_append_getElem h1, h2, hvals_append]
  rfl
set_option maxRecDepth 100000 in
set_option maxHeartbeats 4000000 in
theorem lawBumpHoles_some (tb to cap : Nat) (bn : Nat) (a0 l0 : Int) (x : Nat × Nat) (hs ps : List (Nat × Nat)) (hbn : bn < 32) (hps : ps = x :: hs) (ha0 : a0 = 4096 * (bn : Int) + (x.1 : Int) * 128) (hl0 : l0 = 4096 * (bn : Int) + (x.2 : Int) * 128) (hbd : ∀ y ∈ ps, y.1 < y.2 ∧ y.2 ≤ 32) (hri : ∀ (k : Nat) (x y : Nat × Nat), ps[k]? = some x → ps[k + 1]? = some y → x.2 < y.1) (hlen : ps.length ≤ 32) (w : World) (aA aS aR : Addr) (hV : AV w aA aS aR) (hl : 32 ≤ cap) (hm : cap ≤ maxLen)
    (hA : ∀ W, Below w.heap.size w W → Calls Tryd.prog 30 #[.slice (some ⟨tb, to, none⟩) 32 cap] W (AllH W ps))
    (hO : ∀ W, Below w.heap.size w W → Calls Tryd.prog 20 #[.slice (some ⟨tb, to, none⟩) 32 cap, .int .i64 (bn : Int), .int .i64 0] W fun e w' => e = .returned (.tuple #[.agg #[.int .i64 ((bn : Int)), .int .i64 a0, .int .i64 l0], .bool true]) ∧ Below W.heap.size W w')
    (hU : ∀ W, Below w.heap.size w W → Calls Tryd.prog 27 #[.slice (some ⟨tb, to, none⟩) 32 cap, .agg #[.int .i64 ((bn : Int)), .int .i64 a0, .int .i64 l0]] W (CuPost W (bn : Int) hs)) : Calls Tryd.prog 8 #[.slice (some ⟨tb, to, none⟩) 32 cap, .int .i64 (bn : Int)] w fun e w' => e = .returned (.bool true) ∧ Below w.heap.size w w' := by
  have HS := Lib.hid (fun W (hW : Below w.heap.size w W) => shown11 W aA aS aR (hV.below hW))
  have HC := Lib.hid (fun W => cut_32 (some ⟨tb, to, none⟩) cap W hl hm)
  have HO := Lib.hid (fun W (hW : Below w.heap.size w W) => hO W hW)
  have HA := Lib.hid (fun W (hW : Below w.heap.size w W) => hA W hW)
  have HU := Lib.hid (fun W (hW : Below w.heap.size w W) => hU W hW)
  have c1 : decide ((bn : Int) < 0) = false := by simp
  have c2 : decide (31 < (bn : Int)) = false := by simp; omega
  have HPS := Lib.hid hps
  have HA0 := Lib.hid ha0
  have HL0 := Lib.hid hl0
  have HBn := Lib.hid hbd
  have HRI := Lib.hid hri
  have hlen2 : hs.length < 32 := by rw [hps] at hlen; simp at hlen; omega
  clear hV hl hm hO hA hU hps ha0 hl0 hbd hri
  have HB := Lib.hid (Below.refl w.heap.size w)
  go_enter Tryd.func8, Tryd.ntmps8
  go_wp2_with fail
  ((with_reducible refine (HS.out w HB.out).mono ?_))
  rintro e u1 ⟨rfl, hb⟩
  have HB := Lib.hid (bstep HB.out hb)
  clear hb
  go_wp2_with fail
  ((with_reducible refine (HC.out u1).mono ?_))
  rintro e w' ⟨rfl, rfl⟩
  go_wp2_with fail
  ((with_reducible refine (HA.out u1 HB.out).mono ?_))
  rintro e u2 ⟨gA, rfl, hH, hb⟩
  have HB := Lib.hid (bstep HB.out hb)
  have HH := Lib.hid hH; clear hH
  clear hb
  go_wp2_with fail
  ((with_reducible refine (HO.out u2 HB.out).mono ?_))
  rintro e u3 ⟨rfl, hb⟩
  have HB := Lib.hid (bstep HB.out hb)
  have HH := Lib.hid (HH.out.below hb)
  clear hb
  go_wp2
  have HH := Lib.hid (HH.out.below ((Below.refl _ u3).alloc (Nat.le_refl _) (.cells #[.int .i64 ((bn : Int)), .int .i64 a0, .int .i64 l0] 23)))
  have HB := Lib.hid (bel_al HB.out (.cells #[.int .i64 ((bn : Int)), .int .i64 a0, .int .i64 l0] 23))
  have KC := Lib.hid (Blk.new u3 #[.int .i64 ((bn : Int)), .int .i64 a0, .int .i64 l0] 23)
  generalize u3.alloc (.cells #[.int .i64 ((bn : Int)), .int .i64 a0, .int .i64 l0] 23) = v4 at HB KC HH ⊢
  have rKC0 : v4.cell? ⟨u3.heap.size, 0, none⟩ = some (.int .i64 ((bn : Int))) := KC.out.cell rfl
  have rKC1 : v4.cell? ⟨u3.heap.size, 1, none⟩ = some (.int .i64 a0) := KC.out.cell rfl
  have rKC2 : v4.cell? ⟨u3.heap.size, 2, none⟩ = some (.int .i64 l0) := KC.out.cell rfl
  obtain ⟨i0, hi, hz0, hz1, hz2⟩ := info_parts Tryd.infoCur
  obtain ⟨j0, hj, hy0, hy1, hy2⟩ := info_parts Tryd.infoHole3
  go_region_held3 (fun w' => w'.cell? ⟨u3.heap.size, 0, none⟩ = some (.int .i64 ((bn : Int))) ∧ w'.cell? ⟨u3.heap.size, 1, none⟩ = some (.int .i64 a0) ∧ w'.cell? ⟨u3.heap.size, 2, none⟩ = some (.int .i64 l0))
    (with_reducible first | exact ⟨rKC0, rKC1, rKC2⟩ | exact ⟨cell_dr rKC0, cell_dr rKC1, cell_dr rKC2⟩ | exact ⟨cell_dr (cell_al (.cells #[.int .i64 ((bn : Int)), .int .i64 a0, .int .i64 l0] 23) rKC0), cell_dr (cell_al (.cells #[.int .i64 ((bn : Int)), .int .i64 a0, .int .i64 l0] 23) rKC1), cell_dr (cell_al (.cells #[.int .i64 ((bn : Int)), .int .i64 a0, .int .i64 l0] 23) rKC2)⟩ | exact ⟨cell_al (.cells #[.int .i64 ((bn : Int)), .int .i64 a0, .int .i64 l0] 23) rKC0, cell_al (.cells #[.int .i64 ((bn : Int)), .int .i64 a0, .int .i64 l0] 23) rKC1, cell_al (.cells #[.int .i64 ((bn : Int)), .int .i64 a0, .int .i64 l0] 23) rKC2⟩ | exact ⟨rKC0_a, rKC1_a, rKC2_a⟩ | exact ⟨rKC0_b, rKC1_b, rKC2_b⟩ | exact ⟨cell_al (.cells #[.int .i64 ((bn : Int)), .int .i64 a0, .int .i64 l0] 23) rKC0_b, cell_al (.cells #[.int .i64 ((bn : Int)), .int .i64 a0, .int .i64 l0] 23) rKC1_b, cell_al (.cells #[.int .i64 ((bn : Int)), .int .i64 a0, .int .i64 l0] 23) rKC2_b⟩ | exact ⟨cell_below rKC0 BZ.out, cell_below rKC1 BZ.out, cell_below rKC2 BZ.out⟩)
    (first
        | (go_at_call 27; ((with_reducible refine (HU.out (v4.alloc (.cells #[.int .i64 ((bn : Int)), .int .i64 a0, .int .i64 l0] 23)).drew (bel_dr (bel_al HB.out (.cells #[.int .i64 ((bn : Int)), .int .i64 a0, .int .i64 l0] 23)))).mono ?_)); rintro e y ⟨lv, rfl, row, hb⟩; have rKC0_a := cell_below (cell_dr (cell_al (.cells #[.int .i64 ((bn : Int)), .int .i64 a0, .int .i64 l0] 23) rKC0)) hb; have rKC1_a := cell_below (cell_dr (cell_al (.cells #[.int .i64 ((bn : Int)), .int .i64 a0, .int .i64 l0] 23) rKC1)) hb; have rKC2_a := cell_below (cell_dr (cell_al (.cells #[.int .i64 ((bn : Int)), .int .i64 a0, .int .i64 l0] 23) rKC2)) hb; have BV := Lib.hid (bstep ((Below.refl _ v4).alloc (Nat.le_refl _) (.cells #[.int .i64 ((bn : Int)), .int .i64 a0, .int .i64 l0] 23)).drew hb); have ROW := Lib.hid row; have KN := Lib.hid ((Blk.new v4 #[.int .i64 ((bn : Int)), .int .i64 a0, .int .i64 l0] 23).drew.below' hb); clear row hb)
        | (go_at_call 27; ((with_reducible refine (HU.out v4.drew (bel_dr HB.out)).mono ?_)); rintro e y ⟨lv, rfl, row, hb⟩; have rKC0_b := cell_below (cell_dr rKC0) hb; have rKC1_b := cell_below (cell_dr rKC1) hb; have rKC2_b := cell_below (cell_dr rKC2) hb; have BV := Lib.hid (bstep (Below.refl _ v4).drew hb); have ROW := Lib.hid row; clear row hb)
        | (refine step_app_run (s := .tmp 52) (x := .tmp 55) (t := 45) (v := .slice (some ⟨v4.heap.size, 0, none⟩) 1 1) (u := lv) (by rfl) (by rfl) (by rfl) (by rfl) ?_; obtain ⟨v', z', hrun, hown, hg⟩ := run_app_row y 45 Tryd.underlying45 hi hz0 hz1 hz2 rfl (by decide) (own_blk (base := v4.heap.size) (B := v4.heap.size) (n := 1) (cs := [.int .i64 ((bn : Int)), .int .i64 a0, .int .i64 l0]) KN.out (Nat.le_refl _) rfl (by unfold maxLen; omega)) ROW.out (cvals_one _ _) (by unfold maxLen; omega) (by omega) BV.out.size; refine ⟨v', z', hrun, ?_⟩; have HOWN := Lib.hid hown; have BZ := Lib.hid (bel_grown BV.out hg (fun b e => by simp [Value.ownBlock] at e; subst e; exact (Nat.le_refl _))); clear hown hg hrun)
        | (refine step_app_run (s := .tmp 52) (x := .tmp 55) (t := 45) (v := .slice (some ⟨y.heap.size, 0, none⟩) 1 1) (u := lv) (by rfl) (by rfl) (by rfl) (by rfl) ?_; obtain ⟨v', z', hrun, hown, hg⟩ := run_app_row (y.alloc (.cells #[.int .i64 ((bn : Int)), .int .i64 a0, .int .i64 l0] 23)) 45 Tryd.underlying45 hi hz0 hz1 hz2 rfl (by decide) (own_blk (base := v4.heap.size) (B := y.heap.size) (n := 1) (cs := [.int .i64 ((bn : Int)), .int .i64 a0, .int .i64 l0]) (Blk.new y #[.int .i64 ((bn : Int)), .int .i64 a0, .int .i64 l0] 23) BV.out.size rfl (by unfold maxLen; omega)) (own_belw ROW.out ((Below.refl _ y).alloc (Nat.le_refl _) (.cells #[.int .i64 ((bn : Int)), .int .i64 a0, .int .i64 l0] 23))) (cvals_one _ _) (by unfold maxLen; omega) (by omega) (bel_al BV.out (.cells #[.int .i64 ((bn : Int)), .int .i64 a0, .int .i64 l0] 23)).size; refine ⟨v', z', hrun, ?_⟩; have HOWN := Lib.hid hown; have BZ := Lib.hid (bel_grown (bel_al BV.out (.cells #[.int .i64 ((bn : Int)), .int .i64 a0, .int .i64 l0] 23)) hg (fun b e => by simp [Value.ownBlock] at e; subst e; exact BV.out.size)); clear hown hg hrun)
      )
  all_goals
    have hrow : z'.ownsRow v4.heap.size 23 3 v' ps.length (cvals (bn : Int) ps) := by
      have h1 := HOWN.out
      rw [show 1 + hs.length = ps.length by rw [HPS.out]; simp; omega, show [.int .i64 ((bn : Int)), .int .i64 a0, .int .i64 l0] ++ cvals (bn : Int) hs = cvals (bn : Int) ps by rw [HPS.out, HA0.out, HL0.out]; rfl] at h1
      exact h1
    obtain ⟨q, cc, rfl⟩ := own_sl hrow
    have HROW := Lib.hid hrow
    have HBz := Lib.hid (bstep HB.out BZ.out)
    have HHz := Lib.hid (HH.out.below BZ.out)
    clear HOWN BZ BV ROW hrow rKC0 rKC1 rKC2
    have hown0 : z'.ownsRow z'.heap.size 53 2 (.slice none 0 0) 0 (hvals (ps.take 0)) := ⟨rfl, .inl ⟨rfl, rfl⟩⟩
    have HO0 := Lib.hid hown0
    clear hown0
    go_wp2
    go_loopw [10, 14] (fun s10 s14 wr => ∃ k : Nat, k ≤ ps.length ∧ s14 = .int .i64 (k : Int) ∧ wr.ownsRow z'.heap.size 53 2 s10 k (hvals (ps.take k)) ∧ Below z'.heap.size z' wr) (fun _ s14 _ => ps.length - (intOf s14).toNat)
    case atStart => exact ⟨0, by omega, rfl, HO0.out, Below.refl _ _⟩
    case round =>
      obtain ⟨k, hk, rfl, hwant, hb⟩ := hrel
      obtain ⟨qw, cw, rfl⟩ := own_sl hwant
      have HW := Lib.hid hwant
      have HBr := Lib.hid hb
      clear hwant hb
      by_cases hlt : k < ps.length
      · have hy : ps[k]? = some ps[k] := List.getElem?_eq_getElem hlt
        have hpv : 0 < k → ∃ y' : Nat × Nat, ps[k - 1]? = some y' ∧ y'.2 < ps[k].1 := fun h0 => by
          have h1 : ps[k - 1]? = some ps[k - 1] := List.getElem?_eq_getElem (by omega)
          exact ⟨_, h1, HRI.out (k - 1) _ _ h1 (by rw [show k - 1 + 1 = k by omega]; exact hy)⟩
        generalize ps[k] = y at hy hpv
        have hyb := HBn.out y (List.mem_of_getElem? hy)
        have HST := Lib.hid (hv_take ps k y hy)
        obtain ⟨gb, rfl, hgb, d0, d1, d2⟩ := cur_cells HROW.out k y hy
        have d0 := cell_below d0 HBr.out
        have D1 := Lib.hid d1
        have D2 := Lib.hid d2
        have d1 := cell_below d1 HBr.out
        have d2 := cell_below d2 HBr.out
        have HR := Lib.hid (fun W => right_t (bn : Int) (4096 * (bn : Int) + (y.1 : Int) * 128) (4096 * (bn : Int) + (y.2 : Int) * 128) W (.inr (mk_in (B := (bn : Int)) (by omega) hyb)))
        obtain ⟨a, ha⟩ : ∃ a, 4096 * (bn : Int) + (y.1 : Int) * 128 = a := ⟨_, rfl⟩
        obtain ⟨l, hl⟩ : ∃ l, 4096 * (bn : Int) + (y.2 : Int) * 128 = l := ⟨_, rfl⟩
        rw [ha] at d1 HR D1
        rw [hl] at d2 HR D2
        have ik : (0 : Int) ≤ (k : Int) := by omega
        have ik2 : (k : Int) < (ps.length : Int) := by omega
        have b0 : decide ((k : Int) < (ps.length : Int)) = true := by simp; omega
        have b0' : decide (k < ps.length) = true := by simpa using hlt
        have bb : ((bn : Int) != (bn : Int)) = false := by simp
        have f1 : IntKind.i64.wrap (4096 * (bn : Int)) = 4096 * (bn : Int) := IntWalk.i64_in _ (by omega)
        have f2 : IntKind.i64.wrap (a - 4096 * (bn : Int)) = a - 4096 * (bn : Int) := IntWalk.i64_in _ (by omega)
        have f3 : IntKind.i64.wrap (l - 4096 * (bn : Int)) = l - 4096 * (bn : Int) := IntWalk.i64_in _ (by omega)
        have F := Lib.hid (And.intro f1 (And.intro f2 f3))
        have EX := Lib.hid (And.intro (ex128 (bn : Int) a (y.1 : Int) ha.symm (by omega) (by omega) (by omega)) (ex128 (bn : Int) l (y.2 : Int) hl.symm (by omega) (by omega) (by omega)))
        clear f1 f2 f3 hy
        have HA1 := Lib.hid ha
        have HL1 := Lib.hid hl
        by_cases h0 : 0 < k
        · obtain ⟨y2, hy2, hlt2⟩ := hpv h0
          obtain ⟨gb', ebb, _, _, _, p2⟩ := cur_cells HROW.out (k - 1) y2 hy2
          simp at ebb
          subst ebb
          have p2 := cell_below p2 HBr.out
          obtain ⟨pl, hpl⟩ : ∃ l, 4096 * (bn : Int) + (y2.2 : Int) * 128 = l := ⟨_, rfl⟩
          rw [hpl] at p2
          have t5 : decide (a ≤ pl) = false := by simp; omega
          have t4 : decide ((0 : Int) < (k : Int)) = true := by simp; omega
          have t4n : decide (0 < k) = true := by simp; omega
          have j1 : (0 : Int) ≤ (k : Int) - 1 := by omega
          have j2 : (k : Int) - 1 < (ps.length : Int) := by omega
          have j5 : (1 : Int) ≤ (k : Int) := by omega
          have j6 : 1 ≤ k := by omega
          have j7 : (k : Int) < (ps.length : Int) + 1 := by omega
          have j8 : k - 1 < ps.length := by omega
          clear hpv hy2 ha hl hpl
          go_wp2
          have j3 : IntKind.i64.wrap ((k : Int) - 1) = (k : Int) - 1 := IntWalk.i64_in _ (by omega)
          have j4 : ((k : Int) - 1).toNat = k - 1 := by omega
          go_region_held3 (fun w' => w'.cell? ⟨gb, k * 3, none⟩ = some (.int .i64 (bn : Int)) ∧ w'.cell? ⟨gb, k * 3 + 1, none⟩ = some (.int .i64 a) ∧ w'.cell? ⟨gb, k * 3 + 2, none⟩ = some (.int .i64 l) ∧ w'.cell? ⟨gb, (k - 1) * 3 + 2, none⟩ = some (.int .i64 pl))
            (with_reducible first | exact ⟨d0, d1, d2, p2⟩ | exact ⟨cell_dr d0, cell_dr d1, cell_dr d2, cell_dr p2⟩ | exact ⟨d0r, d1r, d2r, p2r⟩)
            (first | (go_at_call 12; ((with_reducible refine (HR.out wr.drew).mono ?_)); rintro e u ⟨rfl, hb⟩; have d0r := cell_below (cell_dr d0) hb; have d1r := cell_below (cell_dr d1) hb; have d2r := cell_below (cell_dr d2) hb; have p2r := cell_below (cell_dr p2) hb; have HBu := Lib.hid (bstep HBr.out.drew hb); have HWu := Lib.hid (own_belw HW.out (bstep (Below.refl _ wr).drew hb)); clear hb))
          clear d0 d1 d2 p2
          clear j3 j4 p2r t5 t4 t4n j1 j2 j5 j6 j7 j8
          obtain ⟨f1, f2, f3⟩ := F.out
          have e1 : IntKind.i64.wrap ((a - 4096 * (bn : Int)).tdiv 128) = (y.1 : Int) := EX.out.1
          have e2 : IntKind.i64.wrap ((l - 4096 * (bn : Int)).tdiv 128) = (y.2 : Int) := EX.out.2
          go_wp2
          go_region_held3 (fun w' => w'.cell? ⟨gb, k * 3 + 1, none⟩ = some (.int .i64 a) ∧ w'.cell? ⟨gb, k * 3 + 2, none⟩ = some (.int .i64 l))
            (with_reducible first | exact ⟨d1r, d2r⟩ | exact ⟨cell_dr d1r, cell_dr d2r⟩ | exact ⟨cell_dr (cell_al (.cells #[.int .i64 (y.1 : Int), .int .i64 (y.2 : Int)] 53) d1r), cell_dr (cell_al (.cells #[.int .i64 (y.1 : Int), .int .i64 (y.2 : Int)] 53) d2r)⟩ | exact ⟨d1z, d2z⟩)
            (first | (refine step_app_run (s := .tmp 96) (x := .tmp 116) (t := 49) (v := .slice qw k cw) (u := .slice (some ⟨u.heap.size, 0, none⟩) 1 1) (by rfl) (by rfl) (by rfl) (by rfl) ?_; obtain ⟨v2, z2, hrun, hown, hg⟩ := run_app_row ((u.alloc (.cells #[.int .i64 (y.1 : Int), .int .i64 (y.2 : Int)] 53)).drew) 49 Tryd.underlying49 hj hy0 hy1 hy2 rfl (by decide) (own_belw HWu.out ((Below.refl _ u).alloc (Nat.le_refl _) (.cells #[.int .i64 (y.1 : Int), .int .i64 (y.2 : Int)] 53)).drew) (own_blk (base := 0) (B := u.heap.size) (n := 1) (cs := [.int .i64 (y.1 : Int), .int .i64 (y.2 : Int)]) (Blk.new u #[.int .i64 (y.1 : Int), .int .i64 (y.2 : Int)] 53).drew (Nat.zero_le _) rfl (by unfold maxLen; omega)) (hol_one _ _) (by unfold maxLen; omega) (by omega) (bel_dr (bel_al HBu.out (.cells #[.int .i64 (y.1 : Int), .int .i64 (y.2 : Int)] 53))).size; refine ⟨v2, z2, hrun, ?_⟩; have HOWN := Lib.hid hown; have BZ := Lib.hid (bel_grown (bel_dr (bel_al HBu.out (.cells #[.int .i64 (y.1 : Int), .int .i64 (y.2 : Int)] 53))) hg (fun b e => own_base HWu.out e)); clear hown hg hrun; have d1z := cell_below D1.out BZ.out; have d2z := cell_below D2.out BZ.out))
          clear d1r d2r d1z d2z
          go_wp2
          go_roundw
          case rel => exact ⟨k + 1, by omega, by first | rfl | go_num, by rw [HST.out]; exact HOWN.out, BZ.out⟩
          case measure => simp [intOf]; omega
        · obtain rfl : k = 0 := by omega
          rw [show 0 * 3 = 0 from rfl] at d0
          rw [show 0 * 3 + 1 = 1 from rfl] at d1 D1
          rw [show 0 * 3 + 2 = 2 from rfl] at d2 D2
          have z0 : ((0 : Nat) : Int) = 0 := rfl
          rw [z0]
          have z1 : (0 : Int) < (ps.length : Int) := by omega
          have z2 : decide ((0 : Int) < (ps.length : Int)) = true := by simp; omega
          have z3 : decide (0 < ps.length) = true := by simpa using hlt
          clear hpv ha hl h0 ik ik2 b0 b0' z0
          go_wp2
          refine wp_region_noPanic ?_
          refine wp_region_held_drew (S := fun w' => w'.cell? ⟨gb, 0, none⟩ = some (.int .i64 (bn : Int)) ∧ w'.cell? ⟨gb, 1, none⟩ = some (.int .i64 a) ∧ w'.cell? ⟨gb, 2, none⟩ = some (.int .i64 l)) (by kernel_rfl) ?_ (fun hH0 => ?_)
          · with_reducible exact ⟨cell_dr d0, cell_dr d1, cell_dr d2⟩
          refine wpAnyH_take (i := 0) (v := ?_) (by simp only [List.getElem?_toArray, List.getElem?_cons_succ, List.getElem?_cons_zero]; rfl) (by kernel_rfl) (by kernel_rfl) (by kernel_rfl) (fun _ _ _ h => (h : False).elim) (Or.inl ⟨by rfl, ?_⟩) hH0 ?_
          rotate_left
          · intro w hSw; (try dsimp only at hSw); go_simp; try with_reducible rfl
          try simp only [Act.put, List.setIfInBounds_toArray, List.set_cons_zero, List.set_cons_succ]
          refine wpAnyH_take (i := 1) (v := ?_) (by simp only [List.getElem?_toArray, List.getElem?_cons_succ, List.getElem?_cons_zero]; rfl) (by kernel_rfl) (by kernel_rfl) (by kernel_rfl) (fun _ _ _ h => (h : False).elim) (Or.inl ⟨by rfl, ?_⟩) hH0 ?_
          rotate_left
          · intro w hSw; (try dsimp only at hSw); go_simp; try with_reducible rfl
          try simp only [Act.put, List.setIfInBounds_toArray, List.set_cons_zero, List.set_cons_succ]
          refine wpAnyH_take (i := 2) (v := ?_) (by simp only [List.getElem?_toArray, List.getElem?_cons_succ, List.getElem?_cons_zero]; rfl) (by kernel_rfl) (by kernel_rfl) (by kernel_rfl) (fun _ _ _ h => (h : False).elim) (Or.inl ⟨by rfl, ?_⟩) hH0 ?_
          rotate_left
          · intro w hSw; (try dsimp only at hSw); go_simp; try with_reducible rfl
          try simp only [Act.put, List.setIfInBounds_toArray, List.set_cons_zero, List.set_cons_succ]
          refine wpAnyH_take (i := 3) (v := ?_) (by simp only [List.getElem?_toArray, List.getElem?_cons_succ, List.getElem?_cons_zero]; rfl) (by kernel_rfl) (by kernel_rfl) (by kernel_rfl) (fun _ _ _ h => (h : False).elim) (Or.inl ⟨by rfl, ?_⟩) hH0 ?_
          rotate_left
          · intro w hSw; (try dsimp only at hSw); go_simp; try with_reducible rfl
          try simp only [Act.put, List.setIfInBounds_toArray, List.set_cons_zero, List.set_cons_succ]
          refine wpAnyH_ready (rs := [4]) (by kernel_rfl) (by simp) ?_
          refine AllReadyH.cons rfl (fun K hK => ?_) AllReadyH.nil
          go_simp
          ((with_reducible refine (HR.out wr.drew).mono ?_))
          rintro e u ⟨rfl, hb⟩
          have d0r := cell_below (cell_dr d0) hb
          have d1r := cell_below (cell_dr d1) hb
          have d2r := cell_below (cell_dr d2) hb
          have HBu := Lib.hid (bstep HBr.out.drew hb)
          have HWu := Lib.hid (own_belw HW.out (bstep (Below.refl _ wr).drew hb))
          clear hb
          refine hK.out _ _ ?_ (fun hH1 => ?_)
          · with_reducible exact ⟨d0r, d1r, d2r⟩
          clear hK K hH0
          try simp only [Act.put, List.setIfInBounds_toArray, List.set_cons_zero, List.set_cons_succ]
          refine wpAnyH_take (i := 5) (v := ?_) (by simp only [List.getElem?_toArray, List.getElem?_cons_succ, List.getElem?_cons_zero]; rfl) (by kernel_rfl) (by kernel_rfl) (by kernel_rfl) (fun _ _ _ h => (h : False).elim) (Or.inl ⟨by rfl, ?_⟩) hH1 ?_
          rotate_left
          · intro w hSw; (try dsimp only at hSw); go_simp; try with_reducible rfl
          try simp only [Act.put, List.setIfInBounds_toArray, List.set_cons_zero, List.set_cons_succ]
          refine wpAnyH_take (i := 6) (v := ?_) (by simp only [List.getElem?_toArray, List.getElem?_cons_succ, List.getElem?_cons_zero]; rfl) (by kernel_rfl) (by kernel_rfl) (by kernel_rfl) (fun _ _ _ h => (h : False).elim) (Or.inl ⟨by rfl, ?_⟩) hH1 ?_
          rotate_left
          · intro w hSw; (try dsimp only at hSw); go_simp; try with_reducible rfl
          try simp only [Act.put, List.setIfInBounds_toArray, List.set_cons_zero, List.set_cons_succ]
          refine wpAnyH_take (i := 7) (v := ?_) (by simp only [List.getElem?_toArray, List.getElem?_cons_succ, List.getElem?_cons_zero]; rfl) (by kernel_rfl) (by kernel_rfl) (by kernel_rfl) (fun _ _ _ h => (h : False).elim) (Or.inl ⟨by rfl, ?_⟩) hH1 ?_
          rotate_left
          · intro w hSw; (try dsimp only at hSw); go_simp; try with_reducible rfl
          try simp only [Act.put, List.setIfInBounds_toArray, List.set_cons_zero, List.set_cons_succ]
          refine wpAnyH_take (i := 8) (v := ?_) (by simp only [List.getElem?_toArray, List.getElem?_cons_succ, List.getElem?_cons_zero]; rfl) (by kernel_rfl) (by kernel_rfl) (by kernel_rfl) (fun _ _ _ h => (h : False).elim) (Or.inl ⟨by rfl, ?_⟩) hH1 ?_
          rotate_left
          · intro w hSw; (try dsimp only at hSw); go_simp; try with_reducible rfl
          try simp only [Act.put, List.setIfInBounds_toArray, List.set_cons_zero, List.set_cons_succ]
          refine wpAnyH_take (i := 9) (v := ?_) (by simp only [List.getElem?_toArray, List.getElem?_cons_succ, List.getElem?_cons_zero]; rfl) (by kernel_rfl) (by kernel_rfl) (by kernel_rfl) (fun _ _ _ h => (h : False).elim) (Or.inl ⟨by rfl, ?_⟩) hH1 ?_
          rotate_left
          · intro w hSw; (try dsimp only at hSw); go_simp; try with_reducible rfl
          try simp only [Act.put, List.setIfInBounds_toArray, List.set_cons_zero, List.set_cons_succ]
          refine wpAnyH_take (i := 10) (v := ?_) (by simp only [List.getElem?_toArray, List.getElem?_cons_succ, List.getElem?_cons_zero]; rfl) (by kernel_rfl) (by kernel_rfl) (by kernel_rfl) (fun _ _ _ h => (h : False).elim) (Or.inl ⟨by rfl, ?_⟩) hH1 ?_
          rotate_left
          · intro w hSw; (try dsimp only at hSw); go_simp; try with_reducible rfl
          try simp only [Act.put, List.setIfInBounds_toArray, List.set_cons_zero, List.set_cons_succ]
          refine wpAnyH_take (i := 11) (v := ?_) (by simp only [List.getElem?_toArray, List.getElem?_cons_succ, List.getElem?_cons_zero]; rfl) (by kernel_rfl) (by kernel_rfl) (by kernel_rfl) (fun _ _ _ h => (h : False).elim) (Or.inl ⟨by rfl, ?_⟩) hH1 ?_
          rotate_left
          · intro w hSw; (try dsimp only at hSw); go_simp; try with_reducible rfl
          try simp only [Act.put, List.setIfInBounds_toArray, List.set_cons_zero, List.set_cons_succ]
          refine wpAnyH_take (i := 12) (v := ?_) (by simp only [List.getElem?_toArray, List.getElem?_cons_succ, List.getElem?_cons_zero]; rfl) (by kernel_rfl) (by kernel_rfl) (by kernel_rfl) (fun _ _ _ h => (h : False).elim) (Or.inl ⟨by rfl, ?_⟩) hH1 ?_
          rotate_left
          · intro w hSw; (try dsimp only at hSw); go_simp; try with_reducible rfl
          try simp only [Act.put, List.setIfInBounds_toArray, List.set_cons_zero, List.set_cons_succ]
          refine wpAnyH_take (i := 13) (v := ?_) (by simp only [List.getElem?_toArray, List.getElem?_cons_succ, List.getElem?_cons_zero]; rfl) (by kernel_rfl) (by kernel_rfl) (by kernel_rfl) (fun _ _ _ h => (h : False).elim) (Or.inl ⟨by rfl, ?_⟩) hH1 ?_
          rotate_left
          · intro w hSw; (try dsimp only at hSw); go_simp; try with_reducible rfl
          try simp only [Act.put, List.setIfInBounds_toArray, List.set_cons_zero, List.set_cons_succ]
          refine wpAnyH_take (i := 14) (v := ?_) (by simp only [List.getElem?_toArray, List.getElem?_cons_succ, List.getElem?_cons_zero]; rfl) (by kernel_rfl) (by kernel_rfl) (by kernel_rfl) (fun _ _ _ h => (h : False).elim) (Or.inl ⟨by rfl, ?_⟩) hH1 ?_
          rotate_left
          · intro w hSw; (try dsimp only at hSw); go_simp; try with_reducible rfl
          try simp only [Act.put, List.setIfInBounds_toArray, List.set_cons_zero, List.set_cons_succ]
          refine wpAnyH_take (i := 15) (v := ?_) (by simp only [List.getElem?_toArray, List.getElem?_cons_succ, List.getElem?_cons_zero]; rfl) (by kernel_rfl) (by kernel_rfl) (by kernel_rfl) (fun _ _ _ h => (h : False).elim) (Or.inl ⟨by rfl, ?_⟩) hH1 ?_
          rotate_left
          · intro w hSw; (try dsimp only at hSw); go_simp; try with_reducible rfl
          try simp only [Act.put, List.setIfInBounds_toArray, List.set_cons_zero, List.set_cons_succ]
          refine wpAnyH_take (i := 16) (v := ?_) (by simp only [List.getElem?_toArray, List.getElem?_cons_succ, List.getElem?_cons_zero]; rfl) (by kernel_rfl) (by kernel_rfl) (by kernel_rfl) (fun _ _ _ h => (h : False).elim) (Or.inl ⟨by rfl, ?_⟩) hH1 ?_
          rotate_left
          · intro w hSw; (try dsimp only at hSw); go_simp; try with_reducible rfl
          try simp only [Act.put, List.setIfInBounds_toArray, List.set_cons_zero, List.set_cons_succ]
          refine wpAnyH_take (i := 17) (v := ?_) (by simp only [List.getElem?_toArray, List.getElem?_cons_succ, List.getElem?_cons_zero]; rfl) (by kernel_rfl) (by kernel_rfl) (by kernel_rfl) (fun _ _ _ h => (h : False).elim) (Or.inl ⟨by rfl, ?_⟩) hH1 ?_
          rotate_left
          · intro w hSw; (try dsimp only at hSw); go_simp; try with_reducible rfl
          try simp only [Act.put, List.setIfInBounds_toArray, List.set_cons_zero, List.set_cons_succ]
          refine wpAnyH_take (i := 18) (v := ?_) (by simp only [List.getElem?_toArray, List.getElem?_cons_succ, List.getElem?_cons_zero]; rfl) (by kernel_rfl) (by kernel_rfl) (by kernel_rfl) (fun _ _ _ h => (h : False).elim) (Or.inl ⟨by rfl, ?_⟩) hH1 ?_
          rotate_left
          · intro w hSw; (try dsimp only at hSw); go_simp; try with_reducible rfl
          try simp only [Act.put, List.setIfInBounds_toArray, List.set_cons_zero, List.set_cons_succ]
          refine wpAnyH_take (i := 19) (v := undef) (by simp only [List.getElem?_toArray, List.getElem?_cons_succ, List.getElem?_cons_zero]; rfl) (by kernel_rfl) (by kernel_rfl) (by kernel_rfl) (fun _ _ _ h => (h : False).elim) (Or.inr ⟨by rfl, rfl⟩) hH1 ?_
          try simp only [Act.put, List.setIfInBounds_toArray, List.set_cons_zero, List.set_cons_succ]
          refine wpAnyH_take (i := 20) (v := undef) (by simp only [List.getElem?_toArray, List.getElem?_cons_succ, List.getElem?_cons_zero]; rfl) (by kernel_rfl) (by kernel_rfl) (by kernel_rfl) (fun _ _ _ h => (h : False).elim) (Or.inr ⟨by rfl, rfl⟩) hH1 ?_
          try simp only [Act.put, List.setIfInBounds_toArray, List.set_cons_zero, List.set_cons_succ]
          refine wpAnyH_take (i := 21) (v := undef) (by simp only [List.getElem?_toArray, List.getElem?_cons_succ, List.getElem?_cons_zero]; rfl) (by kernel_rfl) (by kernel_rfl) (by kernel_rfl) (fun _ _ _ h => (h : False).elim) (Or.inr ⟨by rfl, rfl⟩) hH1 ?_
          try simp only [Act.put, List.setIfInBounds_toArray, List.set_cons_zero, List.set_cons_succ]
          refine wpAnyH_take (i := 22) (v := undef) (by simp only [List.getElem?_toArray, List.getElem?_cons_succ, List.getElem?_cons_zero]; rfl) (by kernel_rfl) (by kernel_rfl) (by kernel_rfl) (fun _ _ _ h => (h : False).elim) (Or.inr ⟨by rfl, rfl⟩) hH1 ?_
          try simp only [Act.put, List.setIfInBounds_toArray, List.set_cons_zero, List.set_cons_succ]
          refine wpAnyH_take (i := 23) (v := undef) (by simp only [List.getElem?_toArray, List.getElem?_cons_succ, List.getElem?_cons_zero]; rfl) (by kernel_rfl) (by kernel_rfl) (by kernel_rfl) (fun _ _ _ h => (h : False).elim) (Or.inr ⟨by rfl, rfl⟩) hH1 ?_
          try simp only [Act.put, List.setIfInBounds_toArray, List.set_cons_zero, List.set_cons_succ]
          refine wpAnyH_take (i := 24) (v := undef) (by simp only [List.getElem?_toArray, List.getElem?_cons_succ, List.getElem?_cons_zero]; rfl) (by kernel_rfl) (by kernel_rfl) (by kernel_rfl) (fun _ _ _ h => (h : False).elim) (Or.inr ⟨by rfl, rfl⟩) hH1 ?_
          try simp only [Act.put, List.setIfInBounds_toArray, List.set_cons_zero, List.set_cons_succ]
          refine wpAnyH_take (i := 25) (v := undef) (by simp only [List.getElem?_toArray, List.getElem?_cons_succ, List.getElem?_cons_zero]; rfl) (by kernel_rfl) (by kernel_rfl) (by kernel_rfl) (fun _ _ _ h => (h : False).elim) (Or.inr ⟨by rfl, rfl⟩) hH1 ?_
          try simp only [Act.put, List.setIfInBounds_toArray, List.set_cons_zero, List.set_cons_succ]
          refine wpAnyH_take (i := 26) (v := undef) (by simp only [List.getElem?_toArray, List.getElem?_cons_succ, List.getElem?_cons_zero]; rfl) (by kernel_rfl) (by kernel_rfl) (by kernel_rfl) (fun _ _ _ h => (h : False).elim) (Or.inr ⟨by rfl, rfl⟩) hH1 ?_
          try simp only [Act.put, List.setIfInBounds_toArray, List.set_cons_zero, List.set_cons_succ]
          refine wpAnyH_take (i := 27) (v := undef) (by simp only [List.getElem?_toArray, List.getElem?_cons_succ, List.getElem?_cons_zero]; rfl) (by kernel_rfl) (by kernel_rfl) (by kernel_rfl) (fun _ _ _ h => (h : False).elim) (Or.inr ⟨by rfl, rfl⟩) hH1 ?_
          try simp only [Act.put, List.setIfInBounds_toArray, List.set_cons_zero, List.set_cons_succ]
          refine wpAnyH_take (i := 28) (v := undef) (by simp only [List.getElem?_toArray, List.getElem?_cons_succ, List.getElem?_cons_zero]; rfl) (by kernel_rfl) (by kernel_rfl) (by kernel_rfl) (fun _ _ _ h => (h : False).elim) (Or.inr ⟨by rfl, rfl⟩) hH1 ?_
          try simp only [Act.put, List.setIfInBounds_toArray, List.set_cons_zero, List.set_cons_succ]
          refine wpAnyH_take (i := 29) (v := undef) (by simp only [List.getElem?_toArray, List.getElem?_cons_succ, List.getElem?_cons_zero]; rfl) (by kernel_rfl) (by kernel_rfl) (by kernel_rfl) (fun _ _ _ h => (h : False).elim) (Or.inr ⟨by rfl, rfl⟩) hH1 ?_
          try simp only [Act.put, List.setIfInBounds_toArray, List.set_cons_zero, List.set_cons_succ]
          refine wpAnyH_take (i := 30) (v := undef) (by simp only [List.getElem?_toArray, List.getElem?_cons_succ, List.getElem?_cons_zero]; rfl) (by kernel_rfl) (by kernel_rfl) (by kernel_rfl) (fun _ _ _ h => (h : False).elim) (Or.inr ⟨by rfl, rfl⟩) hH1 ?_
          try simp only [Act.put, List.setIfInBounds_toArray, List.set_cons_zero, List.set_cons_succ]
          refine wpAnyH_take (i := 31) (v := ?_) (by simp only [List.getElem?_toArray, List.getElem?_cons_succ, List.getElem?_cons_zero]; rfl) (by kernel_rfl) (by kernel_rfl) (by kernel_rfl) (fun _ _ _ h => (h : False).elim) (Or.inl ⟨by rfl, ?_⟩) hH1 ?_
          rotate_left
          · intro w hSw; (try dsimp only at hSw); go_simp; try with_reducible rfl
          try simp only [Act.put, List.setIfInBounds_toArray, List.set_cons_zero, List.set_cons_succ]
          refine wpAnyH_take (i := 32) (v := ?_) (by simp only [List.getElem?_toArray, List.getElem?_cons_succ, List.getElem?_cons_zero]; rfl) (by kernel_rfl) (by kernel_rfl) (by kernel_rfl) (fun _ _ _ h => (h : False).elim) (Or.inl ⟨by rfl, ?_⟩) hH1 ?_
          rotate_left
          · intro w hSw; (try dsimp only at hSw); go_simp; try with_reducible rfl
          try simp only [Act.put, List.setIfInBounds_toArray, List.set_cons_zero, List.set_cons_succ]
          refine wpAnyH_done (by kernel_rfl) ?_ _
          refine NoPanic.normal ?_
          clear hH1
          clear d0 d1 d2
          clear d0r
          obtain ⟨f1, f2, f3⟩ := F.out
          have e1 : IntKind.i64.wrap ((a - 4096 * (bn : Int)).tdiv 128) = (y.1 : Int) := EX.out.1
          have e2 : IntKind.i64.wrap ((l - 4096 * (bn : Int)).tdiv 128) = (y.2 : Int) := EX.out.2
          go_wp2
          go_region_held3 (fun w' => w'.cell? ⟨gb, 1, none⟩ = some (.int .i64 a) ∧ w'.cell? ⟨gb, 2, none⟩ = some (.int .i64 l))
            (with_reducible first | exact ⟨d1r, d2r⟩ | exact ⟨cell_dr d1r, cell_dr d2r⟩ | exact ⟨cell_dr (cell_al (.cells #[.int .i64 (y.1 : Int), .int .i64 (y.2 : Int)] 53) d1r), cell_dr (cell_al (.cells #[.int .i64 (y.1 : Int), .int .i64 (y.2 : Int)] 53) d2r)⟩ | exact ⟨d1z, d2z⟩)
            (first | (refine step_app_run (s := .tmp 96) (x := .tmp 116) (t := 49) (v := .slice qw 0 cw) (u := .slice (some ⟨u.heap.size, 0, none⟩) 1 1) (by rfl) (by rfl) (by rfl) (by rfl) ?_; obtain ⟨v2, z2, hrun, hown, hg⟩ := run_app_row ((u.alloc (.cells #[.int .i64 (y.1 : Int), .int .i64 (y.2 : Int)] 53)).drew) 49 Tryd.underlying49 hj hy0 hy1 hy2 rfl (by decide) (own_belw HWu.out ((Below.refl _ u).alloc (Nat.le_refl _) (.cells #[.int .i64 (y.1 : Int), .int .i64 (y.2 : Int)] 53)).drew) (own_blk (base := 0) (B := u.heap.size) (n := 1) (cs := [.int .i64 (y.1 : Int), .int .i64 (y.2 : Int)]) (Blk.new u #[.int .i64 (y.1 : Int), .int .i64 (y.2 : Int)] 53).drew (Nat.zero_le _) rfl (by unfold maxLen; omega)) (hol_one _ _) (by unfold maxLen; omega) (by omega) (bel_dr (bel_al HBu.out (.cells #[.int .i64 (y.1 : Int), .int .i64 (y.2 : Int)] 53))).size; refine ⟨v2, z2, hrun, ?_⟩; have HOWN := Lib.hid hown; have BZ := Lib.hid (bel_grown (bel_dr (bel_al HBu.out (.cells #[.int .i64 (y.1 : Int), .int .i64 (y.2 : Int)] 53))) hg (fun b e => own_base HWu.out e)); clear hown hg hrun; have d1z := cell_below D1.out BZ.out; have d2z := cell_below D2.out BZ.out))
          clear d1r d2r d1z d2z
          go_wp2
          go_roundw
          case rel => exact ⟨0 + 1, by omega, by first | rfl | go_num, by rw [HST.out]; exact HOWN.out, BZ.out⟩
          case measure => simp [intOf]; omega
      · obtain rfl : k = ps.length := by omega
        have b0 : decide ((ps.length : Int) < (ps.length : Int)) = false := by simp
        have hpos : 0 < ps.length := by rw [HPS.out]; simp
        have b2 : decide ((0 : Int) < (ps.length : Int)) = true := by simp; omega
        have b2' : decide (0 < ps.length) = true := by simpa using hpos
        have hw2 := HW.out
        rw [List.take_length] at hw2
        have HLW := Lib.hid (HL.own hw2 (by omega))
        have HLA := Lib.hid (HHz.out.below HBr.out)
        have HBt := Lib.hid (bstep HBz.out HBr.out)
        clear hw2 hpos
        go_wp2_with fail
        ((with_reducible refine (same_yes _ _ ps wr HLW.out HLA.out).mono ?_))
        rintro e u9 ⟨rfl, hb⟩
        have HB9 := Lib.hid (bstep HBt.out hb)
        clear hb
        go_wp2
        go_ret
        exact ⟨rfl, HB9.out⟩
theorem lawBumpHoles (p : Option Addr) (n cap : Nat) (B : Int) (w : World) (aA aS aR : Addr) (hV : AV w aA aS aR) (hl : n ≤ cap) (hm : cap ≤ maxLen) (hI : IC w p n) (_ : InI B) : Calls Tryd.prog 8 #[.slice p n cap, .int .i64 B] w fun e w' => e = .returned (.bool true) ∧ Below w.heap.size w w' := by
  rcases tabOr_of (cap := cap) hI with h | ⟨b, o, z, rfl, rfl, hT, hr⟩
  · refine lawBumpHoles_none p n cap B w aA aS aR hV hl hm h (fun W hW => ?_)
    have h2 := open_any _ B 0 W _ ((no_nx h).below hW) no_in aA aS aR (hV.below hW)
    have e : openC B (none : Option (Nat × Nat)) = none := by unfold openC; split <;> rfl
    rw [e] at h2
    exact h2
  · have hA : ∀ W, Below w.heap.size w W → _ := fun W hW => all_h b o cap z W (hT.below hW) hr
    by_cases hB : 0 ≤ B ∧ B < 32
    · cases hh : holesZ (keptZ z) 0 with
      | nil =>
        rw [hh] at hA
        refine lawBumpHoles_full b o cap B w aA aS aR hV hl hm hB hA (fun W hW => ?_)
        have h2 := open_any _ B 0 W _ ((tab_nx (cap := cap) hT hr).below hW) (tab_in _) aA aS aR (hV.below hW)
        rw [show line0 0 = 0 from rfl, hh, List.head?_nil, openC, if_pos hB, Option.map_none] at h2
        exact h2
      | cons x rest =>
        obtain ⟨bn, rfl⟩ : ∃ bn : Nat, B = bn := ⟨B.toNat, by omega⟩
        have hfew := holes_few (keptZ z) 32 0 (by omega)
        refine lawBumpHoles_some b o cap bn _ _ x rest (holesZ (keptZ z) 0) (by omega) hh rfl rfl (fun y hy => holesZ_bounds (keptZ z) 32 0 (by omega) y hy) (rise (keptZ z)) (by omega) w aA aS aR hV hl hm hA (fun W hW => ?_) (fun W hW => ?_)
        · have h2 := open_any _ (bn : Int) 0 W _ ((tab_nx (cap := cap) hT hr).below hW) (tab_in _) aA aS aR (hV.below hW)
          rw [show line0 0 = 0 from rfl, hh, List.head?_cons, openC, if_pos hB, Option.map_some] at h2
          exact h2
        · exact ball_any _ 32 cap (bn : Int) _ _ W (FT (keptZ z)) ((tab_nx (cap := cap) hT hr).below hW) (tab_in _) aA aS aR (hV.below hW) (bn : Int) rest (chn_first (keptZ z) (bn : Int) hB x rest 0 hh) (fun _ => hB)
    · have hO : ∀ W, Below w.heap.size w W → _ := fun W hW => open_bad (.slice (some ⟨b, o, none⟩) (min 32 34) cap) B 0 W aA aS aR (hV.below hW) hB
      by_cases h1 : B < 0
      · exact lawBumpHoles_far0 b o cap B _ w aA aS aR hV hl hm h1 hA hO
      · exact lawBumpHoles_far1 b o cap B _ w aA aS aR hV hl hm (by omega) hA hO
end Go.Proofs.YtanccoahpcfbnaaDoor
