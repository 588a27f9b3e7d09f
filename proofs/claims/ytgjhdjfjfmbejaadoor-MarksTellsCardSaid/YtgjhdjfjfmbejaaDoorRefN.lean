/-
  selionref07.Mark; what lay in memory stays.
-/
import Derived.Test.YtgjhdjfjfmbejaaDoorRefM
import Derived.Deep.DeepAppendRoom
namespace Go.Proofs.YtgjhdjfjfmbejaaDoor
open Go.RowKit Go.Lib Go.Shelf
attribute [local go_sem] Oper.semAt_some

theorem mk0m (W : World) : (Instr.makeSlice 22 (.int .i64 0) (.int .i64 32)).run Tryd.prog W = .ok (.slice (some ⟨W.heap.size, 0, none⟩) 0 32) (W.alloc (.cells zeros32 3)) := by kernel_rfl
theorem own0 (W : World) : (W.alloc (.cells zeros32 3)).ownsRow W.heap.size 3 1 (.slice (some ⟨W.heap.size, 0, none⟩) 0 32) 0 [] :=
  ⟨rfl, .inr ⟨W.heap.size, 32, zeros32, rfl, Nat.le_refl _, heap_alloc_new W (.cells zeros32 3), by omega, by decide, by simp [zeros32], by simp⟩⟩
theorem own32_blk {w : World} {base g : Nat} {z : Nat → Int} (h : w.ownsRow base 3 1 (.slice (some ⟨g, 0, none⟩) (0 + 32) 32) (0 + 32) ([] ++ tvals z)) : Blk w g (tcells z) 3 := by
  rcases h.2 with ⟨h, _⟩ | ⟨g', cap, cur, e, _, hb, _, _, hs, ht⟩
  · cases h
  · cases e
    have : cur = tcells z := by
      apply Array.toList_inj.1
      rw [← List.take_of_length_le (l := cur.toList) (i := (0 + 32) * 1) (by rw [Array.length_toList, hs]; omega), ht]
      rfl
    rw [← this]; exact hb
set_option maxRecDepth 100000 in
set_option maxHeartbeats 2000000 in
theorem rmark_no (v : Value) (a n : Int) (w : World) (h : RA w v none) : Calls Tryd.prog 20 #[v, .int .i64 a, .int .i64 n] w (Made w none 70) := by
  have HR := Lib.hid (rright_ra v none w h)
  clear h
  go_enter Tryd.func20, Tryd.ntmps20
  go_wp2_with (go_at_call 23; ((with_reducible refine HR.out.mono ?_)); rintro e w' ⟨rfl, rfl⟩)
  go_ret2
  exact ⟨_, rfl, AR.nil _, fun _ => rfl, Below.refl _ _⟩
set_option maxRecDepth 100000 in
set_option maxHeartbeats 2000000 in
theorem rmark_bad (v : Value) (z : Nat → Int) (a n : Int) (w : World) (h : RA w v (some z)) (hx : ¬ xr a n) : Calls Tryd.prog 20 #[v, .int .i64 a, .int .i64 n] w (Made w none 11) := by
  have HR := Lib.hid (rright_ra v (some z) w h)
  have HX := Lib.hid (rextent_no a n w hx)
  clear h hx
  go_enter Tryd.func20, Tryd.ntmps20
  go_wp2_with (first
    | (go_at_call 23; ((with_reducible refine HR.out.mono ?_)); rintro e w' ⟨rfl, rfl⟩)
    | (go_at_call 40; ((with_reducible refine HX.out.mono ?_)); rintro e w' ⟨rfl, rfl⟩))
  go_ret2
  exact ⟨_, rfl, AR.nil _, fun _ => rfl, Below.refl _ _⟩

/-- Lines f up to k are marked. -/
def rmarkTo (z : Nat → Int) (f k i : Nat) : Int := if f ≤ i ∧ i < k then max (z i) 1 else z i
theorem rmarkTo_succ (z : Nat → Int) (f k i : Nat) (hf : f ≤ k) : (if i = k then max (rmarkTo z f k k) 1 else rmarkTo z f k i) = rmarkTo z f (k + 1) i := by
  simp only [rmarkTo]
  by_cases e : i = k
  · subst e; rw [if_pos rfl, if_neg (by omega), if_pos (by omega)]
  · rw [if_neg e]
    by_cases h : f ≤ i ∧ i < k
    · rw [if_pos h, if_pos (by omega)]
    · rw [if_neg h, if_neg (by omega)]
theorem rmarkTo_zero (z : Nat → Int) (f : Nat) : tcells z = tcells (rmarkTo z f f) := tcells_congr fun i _ => by simp only [rmarkTo]; rw [if_neg (by omega)]
theorem src32 {w : World} {b o : Nat} {z : Nat → Int} (h : Tab w b o z) (j : Nat) (v : Value) (hj : (tvals z)[j]? = some v) : w.cell? ((⟨b, o, none⟩ : Addr).add j) = some v := by
  have hj32 : j < 32 := by have := (List.getElem?_eq_some_iff.1 hj).1; rwa [tvals_len] at this
  rw [tvals_get z j hj32] at hj
  injection hj with hj
  subst hj
  have := h j hj32
  rwa [Go.WideShapes.add_plain]
theorem one32 (z : Nat → Int) : ∀ u ∈ tvals z, u.oneCell' = true := fun u hu => by
  obtain ⟨i, _, rfl⟩ := List.mem_map.1 hu
  rfl

theorem rmark_small {z : Nat → Int} (hr : rightT z = true) {a n : Int} {f : Nat} (hn : n ≤ 128) (hf : a / 128 = (f : Int)) (i : Nat) (hi : i < 32) : (if i = f then 2 else z i) = markZ z a n i := by
  have h := (rightT_iff z).1 hr i hi
  simp only [markZ, mkF]
  rw [if_pos hn, hf]
  by_cases e : i = f
  · rw [if_pos e, if_pos (by omega)]; omega
  · rw [if_neg e, if_neg (by omega)]; omega
theorem mark_large {z : Nat → Int} (hr : rightT z = true) {a n : Int} {f l : Nat} (hn : ¬ n ≤ 128) (hf : a / 128 = (f : Int)) (hl : (a + n - 1) / 128 = (l : Int)) (i : Nat) (hi : i < 32) : rmarkTo z f (l + 1) i = markZ z a n i := by
  have h := (rightT_iff z).1 hr i hi
  simp only [rmarkTo, markZ, mkF]
  rw [if_neg hn, hf, hl]
  by_cases e : f ≤ i ∧ i < l + 1
  · rw [if_pos e, if_pos (by omega)]
  · rw [if_neg e, if_neg (by omega)]; omega

set_option maxRecDepth 100000 in
set_option maxHeartbeats 2000000 in
theorem rmark_good (v : Value) (z : Nat → Int) (a n : Int) (w : World) (h : AR w v (some z)) (hx : xr a n) : Calls Tryd.prog 20 #[v, .int .i64 a, .int .i64 n] w (Made w (some (markZ z a n)) 0) := by
  obtain ⟨b, o, cap, rfl, hT, hr⟩ := h
  have HR := Lib.hid (rright_yes b o cap z w hT hr)
  have HX := Lib.hid (rextent_yes a n w hx)
  have HM := Lib.hid (markZ_right a n hr)
  have HRT := Lib.hid hr
  have hmk := mk0m
  obtain ⟨i0, hi, hz0, hz1, hz2⟩ := info_parts Tryd.infoInt
  have hbA := (Below.refl _ w).alloc (Nat.le_refl _) (.cells zeros32 3)
  have HT := Lib.hid (hT.below hbA)
  have HBA := Lib.hid hbA
  have HO := Lib.hid (own0 w)
  obtain ⟨y1, y2, y3, y4, y5, y6⟩ := hx
  clear hT hr hbA y3
  obtain ⟨f, hf⟩ : ∃ f : Nat, a / 128 = (f : Int) := ⟨(a / 128).toNat, by omega⟩
  obtain ⟨l, hl⟩ : ∃ l : Nat, (a + n - 1) / 128 = (l : Int) := ⟨((a + n - 1) / 128).toNat, by omega⟩
  have hl32 : l < 32 := by omega
  have hfl : f ≤ l := by omega
  have f0 : 0 ≤ a / 128 := by omega
  have f1 : a / 128 < 32 := by omega
  by_cases hn : n ≤ 128
  · go_enter Tryd.func20, Tryd.ntmps20
    go_wp2_with (first
      | (go_at_call 23; ((with_reducible refine HR.out.mono ?_)); rintro e w' ⟨rfl, rfl⟩)
      | (go_at_call 40; ((with_reducible refine HX.out.mono ?_)); rintro e w' ⟨rfl, rfl⟩)
      | (at_builtin; refine wpList_append_own_spare _ rfl _ _ 22 rfl w.heap.size 3 i0 1 Tryd.underlying22 hi hz1 w.heap.size 0 32 [] rfl HO.out ⟨b, o, none⟩ 32 cap (tvals z) rfl (by rw [tvals_len]) (src32 HT.out) (one32 z) (by omega) ?_; intro w2 hown hgrow; have HG := Lib.hid (own32_blk hown); have HB := Lib.hid (HBA.out.grown hgrow HBA.out.size (fun k ek => by cases ek; exact Nat.le_refl _)); clear hown hgrow; have cG := HG.out.cell (tcells_get z f (by omega)); have fG := HG.out.frozen f))
    go_ret2
    refine ⟨_, rfl, ⟨_, 0, 32, rfl, fun i hi => ?_, HM.out⟩, (fun h => by cases h), HB.out.setCell (p := ⟨w.heap.size, f, none⟩) (Nat.le_refl _) _⟩
    have h1 := HG.out.set f (.int .i64 2)
    rw [tcells_set _ _ _ (by omega)] at h1
    have h2 := h1.tab i hi
    rwa [rmark_small HRT.out hn hf i hi] at h2
  · have g0 : 0 ≤ a + n - 1 := by omega
    have g1 : a + n - 1 < 4096 := by omega
    go_enter Tryd.func20, Tryd.ntmps20
    go_wp2_with (first
      | (go_at_call 23; ((with_reducible refine HR.out.mono ?_)); rintro e w' ⟨rfl, rfl⟩)
      | (go_at_call 40; ((with_reducible refine HX.out.mono ?_)); rintro e w' ⟨rfl, rfl⟩)
      | (at_builtin; refine wpList_append_own_spare _ rfl _ _ 22 rfl w.heap.size 3 i0 1 Tryd.underlying22 hi hz1 w.heap.size 0 32 [] rfl HO.out ⟨b, o, none⟩ 32 cap (tvals z) rfl (by rw [tvals_len]) (src32 HT.out) (one32 z) (by omega) ?_; intro w2 hown hgrow; have HG := Lib.hid (own32_blk hown); have HB := Lib.hid (HBA.out.grown hgrow HBA.out.size (fun k ek => by cases ek; exact Nat.le_refl _)); clear hown hgrow))
    have HG0 := Lib.hid HG.out
    rw [rmarkTo_zero z f] at HG0
    rw [hf]
    go_loopw [9] (fun i wr => ∃ k : Nat, f ≤ k ∧ k ≤ l + 1 ∧ i = .int .i64 (k : Int) ∧ Blk wr w.heap.size (tcells (rmarkTo z f k)) 3 ∧ Below w.heap.size w wr) (fun i _ => 64 - (intOf i).toNat)
    case atStart => exact ⟨f, Nat.le_refl _, by omega, rfl, HG0.out, HB.out⟩
    case round =>
      obtain ⟨k, hk0, hk, rfl, gG, gB⟩ := hrel
      have KG := Lib.hid gG
      have KB := Lib.hid gB
      clear HG HG0 HB
      by_cases hlt : k ≤ l
      · have cG := gG.cell (tcells_get (rmarkTo z f k) k (by omega))
        have fG := gG.frozen k
        have HS := Lib.hid (tcells_congr (fun i (_ : i < 32) => rmarkTo_succ z f k i hk0))
        generalize rmarkTo z f k k = p at cG HS
        have i0' : (0 : Int) ≤ (k : Int) := by omega
        have i1 : (k : Int) < 32 := by omega
        have i2 : (k : Int) ≤ (a + n - 1) / 128 := by omega
        clear gG gB
        by_cases hc : p < 1
        · rw [Int.max_eq_right (by omega)] at HS
          go_wp2
          go_roundw
          case rel =>
            refine ⟨k + 1, by omega, by omega, by go_num, ?_, KB.out.setCell (p := ⟨w.heap.size, k, none⟩) (Nat.le_refl _) _⟩
            have h1 := KG.out.set k (.int .i64 1)
            rw [tcells_set _ _ _ (by omega), HS.out] at h1
            exact h1
          case measure => simp [intOf]; omega
        · rw [Int.max_eq_left (by omega)] at HS
          have hc' : 1 ≤ p := by omega
          clear hc
          go_wp2
          go_roundw
          case rel =>
            refine ⟨k + 1, by omega, by omega, by go_num, ?_, KB.out.setCell (p := ⟨w.heap.size, k, none⟩) (Nat.le_refl _) _⟩
            have h1 := KG.out.set k (.int .i64 p)
            rw [tcells_set _ _ _ (by omega), HS.out] at h1
            exact h1
          case measure => simp [intOf]; omega
      · obtain rfl : k = l + 1 := by omega
        have i2 : decide (((l + 1 : Nat) : Int) ≤ (a + n - 1) / 128) = false := by simp; omega
        clear gG gB
        go_wp2
        go_ret2
        refine ⟨_, rfl, ⟨_, 0, 32, rfl, fun i hi => ?_, HM.out⟩, (fun h => by cases h), KB.out⟩
        have h2 := KG.out.tab i hi
        rwa [mark_large HRT.out (by omega) hf hl i hi] at h2
end Go.Proofs.YtgjhdjfjfmbejaaDoor
