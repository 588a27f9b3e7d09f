/-
  marks.marker.mark with one extent: the table is marked, or an error is told; what lay in memory, but for that table, stays.
-/
import Derived.Test.YtgjhdjfjfmbejaaDoorMarkC
namespace Go.Proofs.YtgjhdjfjfmbejaaDoor
open Go.RowKit Go.Lib Go.Shelf
attribute [local go_sem] Oper.semAt_some

theorem find1 (M : Nat) : Instr.findNow (.int .i64) (.int .i64 1) (wayEs M).toList 0 = some (some (0, .func (.func 61) #[] #[.pointer (some ⟨M, 0, none⟩)])) := rfl
theorem find2 (M : Nat) : Instr.findNow (.int .i64) (.int .i64 2) (wayEs M).toList 0 = some (some (1, .func (.func 62) #[] #[.pointer (some ⟨M, 0, none⟩)])) := rfl

set_option maxRecDepth 100000 in
set_option maxHeartbeats 2000000 in
/-- An extent that is not right: the error, and nothing changes. -/
theorem mark_bad (V : VA) (g s : Nat) (a n : Int) (w : World) (hV : MV w V) (hS : Blk w s #[.int .i64 a, .int .i64 n] 53) (hx : ¬ xr a n) :
    Calls Tryd.prog 33 #[.agg #[.slice (some ⟨g, 0, none⟩) 32 32], .slice (some ⟨s, 0, none⟩) 1 1] w fun e w' => e = .returned (.iface 113 (.pointer (some V.mS))) ∧ Below w.heap.size w w' := by
  have HV := Lib.hid hV
  have HS := Lib.hid hS
  have HX := Lib.hid hx
  clear hV hS hx
  go_enter Tryd.func33, Tryd.ntmps33
  go_wp2_with (go_at_call 51; ((with_reducible refine (ways_any _ _ _ _).mono ?_)); rintro e w' ⟨rfl, rfl⟩)
  obtain ⟨_, b1, hB0, hsz⟩ := blk2 w #[.slice (some ⟨g, 0, none⟩) 32 32] #[.slice (some ⟨g, 0, none⟩) 32 32] 50 50
  have hm := heap_alloc_new ((w.alloc (.cells #[.slice (some ⟨g, 0, none⟩) 32 32] 50)).alloc (.cells #[.slice (some ⟨g, 0, none⟩) 32 32] 50)) (.map (wayEs (w.heap.size + 1)) 2)
  rw [hsz] at hm
  have hB1 := hB0.alloc (by have := hB0.size; omega) (.map (wayEs (w.heap.size + 1)) 2)
  have b1' := b1.alloc (.map (wayEs (w.heap.size + 1)) 2)
  clear hB0 b1 hsz
  generalize ((w.alloc (.cells #[.slice (some ⟨g, 0, none⟩) 32 32] 50)).alloc (.cells #[.slice (some ⟨g, 0, none⟩) 32 32] 50)).alloc (.map (wayEs (w.heap.size + 1)) 2) = W1 at hm hB1 b1' ⊢
  have HM := Lib.hid hm
  have HB := Lib.hid hB1
  have HK := Lib.hid b1'
  have cs0 : W1.cell? ⟨s, 0, none⟩ = some (.int .i64 a) := (HS.out.below' HB.out).cell rfl
  have cs1 : W1.cell? ⟨s, 1, none⟩ = some (.int .i64 n) := (HS.out.below' HB.out).cell rfl
  replace HV := Lib.hid (HV.out.below HB.out)
  clear hm hB1 b1' HS
  refine wp_loop_rounds 2 ?_
  rw [rounds_succ]
  go_wp2_with fail
  have hbA := (Below.refl _ W1).alloc (Nat.le_refl _) (.cells #[.int .i64 a, .int .i64 n] 53)
  ((with_reducible refine (xright_no a n _ HX.out).mono ?_))
  rintro e w2 ⟨rfl, hb⟩
  have cE := (HV.out.below (bstep hbA hb)).cS.1
  have HB2 := Lib.hid (bstep HB.out (bstep hbA hb))
  clear hb hbA
  go_wp2
  go_ret
  exact ⟨rfl, HB2.out⟩

/-- What marking makes of a table. -/
def MarkedPost (w : World) (g : Nat) (z : Nat → Int) (a n : Int) (e : Ending) (w' : World) : Prop := e = .returned .nilIface ∧ Blk w' g (tcells (markZ z a n)) 3 ∧ Only g w w'

set_option maxRecDepth 100000 in
set_option maxHeartbeats 2000000 in
theorem mark_small (V : VA) (g s : Nat) (z : Nat → Int) (a n : Int) (w : World) (hV : MV w V) (hS : Blk w s #[.int .i64 a, .int .i64 n] 53) (hG : Blk w g (tcells z) 3) (hr : rightT z = true) (hx : xr a n) (hn : n ≤ 128) :
    Calls Tryd.prog 33 #[.agg #[.slice (some ⟨g, 0, none⟩) 32 32], .slice (some ⟨s, 0, none⟩) 1 1] w (MarkedPost w g z a n) := by
  have HV := Lib.hid hV
  have HS := Lib.hid hS
  have HG := Lib.hid hG
  have HX := Lib.hid hx
  have hgl := hG.lt
  obtain ⟨x1, x2, x3, x4, x5, x6⟩ := hx
  obtain ⟨f, hf⟩ : ∃ f : Nat, a / 128 = (f : Int) := ⟨(a / 128).toNat, by omega⟩
  have hf32 : f < 32 := by omega
  have hZ : tcells (fun j => if j = f then 2 else z j) = tcells (markZ z a n) := tcells_congr (fun i hi => by
    have h1 := (rightT_iff z).1 hr i hi
    simp only [markZ, mkF]
    rw [if_pos hn, hf]
    by_cases e : i = f
    · subst e; simp only [if_true]; omega
    · rw [if_neg e, if_neg (by omega)]; omega)
  have HZ := Lib.hid hZ
  have HF := Lib.hid hf
  clear hV hS hG hr hZ hf x3
  go_enter Tryd.func33, Tryd.ntmps33
  go_wp2_with (go_at_call 51; ((with_reducible refine (ways_any _ _ _ _).mono ?_)); rintro e w' ⟨rfl, rfl⟩)
  obtain ⟨_, b1, hB0, hsz⟩ := blk2 w #[.slice (some ⟨g, 0, none⟩) 32 32] #[.slice (some ⟨g, 0, none⟩) 32 32] 50 50
  have hm := heap_alloc_new ((w.alloc (.cells #[.slice (some ⟨g, 0, none⟩) 32 32] 50)).alloc (.cells #[.slice (some ⟨g, 0, none⟩) 32 32] 50)) (.map (wayEs (w.heap.size + 1)) 2)
  rw [hsz] at hm
  have hB1 := hB0.alloc (by have := hB0.size; omega) (.map (wayEs (w.heap.size + 1)) 2)
  have b1' := b1.alloc (.map (wayEs (w.heap.size + 1)) 2)
  clear hB0 b1 hsz
  generalize ((w.alloc (.cells #[.slice (some ⟨g, 0, none⟩) 32 32] 50)).alloc (.cells #[.slice (some ⟨g, 0, none⟩) 32 32] 50)).alloc (.map (wayEs (w.heap.size + 1)) 2) = W1 at hm hB1 b1' ⊢
  have HM := Lib.hid hm
  have HB := Lib.hid hB1
  have HK := Lib.hid b1'
  have cs0 : W1.cell? ⟨s, 0, none⟩ = some (.int .i64 a) := (HS.out.below' HB.out).cell rfl
  have cs1 : W1.cell? ⟨s, 1, none⟩ = some (.int .i64 n) := (HS.out.below' HB.out).cell rfl
  replace HV := Lib.hid (HV.out.below HB.out)
  clear hm hB1 b1' HS
  refine wp_loop_rounds 2 ?_
  rw [rounds_succ]
  go_wp2_with fail
  have hbA := (Below.refl _ W1).alloc (Nat.le_refl _) (.cells #[.int .i64 a, .int .i64 n] 53)
  have bX := Blk.new W1 #[.int .i64 a, .int .i64 n] 53
  generalize W1.alloc (.cells #[.int .i64 a, .int .i64 n] 53) = W2 at hbA bX ⊢
  ((with_reducible refine (xright_yes a n _ HX.out).mono ?_))
  rintro e w3 ⟨rfl, hb⟩
  replace hbA := bstep hbA hb
  have c1 : w3.cell? ⟨W1.heap.size, 1, none⟩ = some (.int .i64 n) := (bX.below' hb).cell rfl
  have HX3 := Lib.hid (bX.below' hb)
  have HBA := Lib.hid hbA
  clear hb bX hbA
  go_wp2_with fail
  ((with_reducible refine (Ad.class1 n _ _ _ _ (HV.out.below HBA.out).av x4 hn).mono ?_))
  rintro e w4 ⟨rfl, hb⟩
  have c2 : w4.cell? ⟨W1.heap.size, 0, none⟩ = some (.int .i64 a) := (HX3.out.below' hb).cell rfl
  have c3 : w4.cell? ⟨W1.heap.size, 1, none⟩ = some (.int .i64 n) := (HX3.out.below' hb).cell rfl
  replace HBA := Lib.hid (bstep HBA.out hb)
  clear hb c1
  go_wp2_with fail
  ((with_reducible refine (Ad.span_yes a n _ _ _ _ (HV.out.below HBA.out).av x4 x1 (by omega) (by omega)).mono ?_))
  rintro e w5 ⟨rfl, hb⟩
  replace HBA := Lib.hid (bstep HBA.out hb)
  have hlk := run_look ((HBA.out.block _ (Array.getElem?_eq_some_iff.1 HM.out).1).trans HM.out) 1 _ 0 (find1 _)
  clear hb c2 c3
  rw [HF.out]
  go_wp2_with fail
  have gG := (HG.out.below' HB.out).below' HBA.out
  have gK := HK.out.below' HBA.out
  ((with_reducible refine (ways1_any (w.heap.size + 1) g z f _ _ gK gG hf32).mono ?_))
  rintro e w6 ⟨rfl, rfl⟩
  have HG6 := Lib.hid (gG.set f (.int .i64 2))
  rw [tcells_set _ _ _ hf32, HZ.out] at HG6
  have HO6 := Lib.hid (only_set (only_of_below (g := g) (bstep HB.out HBA.out)) f (.int .i64 2))
  clear gG gK hlk
  go_wp2
  rw [rounds_succ]
  go_wp2
  go_ret
  exact ⟨rfl, HG6.out, HO6.out⟩
set_option maxRecDepth 100000 in
set_option maxHeartbeats 2000000 in
theorem mark_medium (V : VA) (g s : Nat) (z : Nat → Int) (a n : Int) (w : World) (hV : MV w V) (hS : Blk w s #[.int .i64 a, .int .i64 n] 53) (hG : Blk w g (tcells z) 3) (hr : rightT z = true) (hx : xr a n) (hn : 128 < n) :
    Calls Tryd.prog 33 #[.agg #[.slice (some ⟨g, 0, none⟩) 32 32], .slice (some ⟨s, 0, none⟩) 1 1] w (MarkedPost w g z a n) := by
  have HV := Lib.hid hV
  have HS := Lib.hid hS
  have HG := Lib.hid hG
  have HX := Lib.hid hx
  have hgl := hG.lt
  obtain ⟨x1, x2, x3, x4, x5, x6⟩ := hx
  obtain ⟨f, hf⟩ : ∃ f : Nat, a / 128 = (f : Int) := ⟨(a / 128).toNat, by omega⟩
  obtain ⟨l, hl⟩ : ∃ l : Nat, (a + n - 1) / 128 = (l : Int) := ⟨((a + n - 1) / 128).toNat, by omega⟩
  have hl32 : l < 32 := by omega
  have hfl : f ≤ l := by omega
  have hZ : tcells (medZ z (seg f (l + 1 - f))) = tcells (markZ z a n) := tcells_congr (fun i hi => by
    have h1 := (rightT_iff z).1 hr i hi
    have hm : memB (seg f (l + 1 - f)) i = decide (f ≤ i ∧ i ≤ l) := by
      rw [Bool.eq_iff_iff]
      simp only [memB, List.any_eq_true, beq_iff_eq, seg, List.mem_map, List.mem_range, decide_eq_true_eq]
      constructor
      · rintro ⟨x, ⟨k, hk, rfl⟩, rfl⟩
        rw [fin_val _ (by omega)]
        omega
      · intro h
        exact ⟨Fin.ofNat 32 i, ⟨i - f, by omega, by rw [show f + (i - f) = i by omega]⟩, fin_val i hi⟩
    simp only [medZ, markZ, mkF]
    rw [hm, hf, hl, if_neg (show ¬ n ≤ 128 by omega)]
    by_cases e : f ≤ i ∧ i ≤ l
    · rw [if_pos (by simpa using e), if_pos (by omega)]
    · rw [if_neg (by simpa using e), if_neg (by omega)]; omega)
  have HZ := Lib.hid hZ
  have HF := Lib.hid hf
  have HL := Lib.hid hl
  clear hV hS hG hr hZ hf hl x3
  go_enter Tryd.func33, Tryd.ntmps33
  go_wp2_with (go_at_call 51; ((with_reducible refine (ways_any _ _ _ _).mono ?_)); rintro e w' ⟨rfl, rfl⟩)
  obtain ⟨_, b1, hB0, hsz⟩ := blk2 w #[.slice (some ⟨g, 0, none⟩) 32 32] #[.slice (some ⟨g, 0, none⟩) 32 32] 50 50
  have hm := heap_alloc_new ((w.alloc (.cells #[.slice (some ⟨g, 0, none⟩) 32 32] 50)).alloc (.cells #[.slice (some ⟨g, 0, none⟩) 32 32] 50)) (.map (wayEs (w.heap.size + 1)) 2)
  rw [hsz] at hm
  have hB1 := hB0.alloc (by have := hB0.size; omega) (.map (wayEs (w.heap.size + 1)) 2)
  have b1' := b1.alloc (.map (wayEs (w.heap.size + 1)) 2)
  clear hB0 b1 hsz
  generalize ((w.alloc (.cells #[.slice (some ⟨g, 0, none⟩) 32 32] 50)).alloc (.cells #[.slice (some ⟨g, 0, none⟩) 32 32] 50)).alloc (.map (wayEs (w.heap.size + 1)) 2) = W1 at hm hB1 b1' ⊢
  have HM := Lib.hid hm
  have HB := Lib.hid hB1
  have HK := Lib.hid b1'
  have cs0 : W1.cell? ⟨s, 0, none⟩ = some (.int .i64 a) := (HS.out.below' HB.out).cell rfl
  have cs1 : W1.cell? ⟨s, 1, none⟩ = some (.int .i64 n) := (HS.out.below' HB.out).cell rfl
  replace HV := Lib.hid (HV.out.below HB.out)
  clear hm hB1 b1' HS
  refine wp_loop_rounds 2 ?_
  rw [rounds_succ]
  go_wp2_with fail
  have hbA := (Below.refl _ W1).alloc (Nat.le_refl _) (.cells #[.int .i64 a, .int .i64 n] 53)
  have bX := Blk.new W1 #[.int .i64 a, .int .i64 n] 53
  generalize W1.alloc (.cells #[.int .i64 a, .int .i64 n] 53) = W2 at hbA bX ⊢
  ((with_reducible refine (xright_yes a n _ HX.out).mono ?_))
  rintro e w3 ⟨rfl, hb⟩
  replace hbA := bstep hbA hb
  have c1 : w3.cell? ⟨W1.heap.size, 1, none⟩ = some (.int .i64 n) := (bX.below' hb).cell rfl
  have HX3 := Lib.hid (bX.below' hb)
  have HBA := Lib.hid hbA
  clear hb bX hbA
  go_wp2_with fail
  ((with_reducible refine (Ad.class2 n _ _ _ _ (HV.out.below HBA.out).av hn x5).mono ?_))
  rintro e w4 ⟨rfl, hb⟩
  have c2 : w4.cell? ⟨W1.heap.size, 0, none⟩ = some (.int .i64 a) := (HX3.out.below' hb).cell rfl
  have c3 : w4.cell? ⟨W1.heap.size, 1, none⟩ = some (.int .i64 n) := (HX3.out.below' hb).cell rfl
  replace HBA := Lib.hid (bstep HBA.out hb)
  clear hb c1
  go_wp2_with fail
  ((with_reducible refine (Ad.span_yes a n _ _ _ _ (HV.out.below HBA.out).av x4 x1 (by omega) (by omega)).mono ?_))
  rintro e w5 ⟨rfl, hb⟩
  replace HBA := Lib.hid (bstep HBA.out hb)
  have hlk := run_look ((HBA.out.block _ (Array.getElem?_eq_some_iff.1 HM.out).1).trans HM.out) 2 _ 1 (find2 _)
  clear hb c2 c3
  rw [HF.out, HL.out]
  go_wp2_with fail
  have gG := (HG.out.below' HB.out).below' HBA.out
  have gK := HK.out.below' HBA.out
  ((with_reducible refine (ways2_any (w.heap.size + 1) g z f l _ gK gG (by omega) hfl hl32).mono ?_))
  rintro e w6 ⟨rfl, hG6, hO6⟩
  rw [HZ.out] at hG6
  have HG6 := Lib.hid hG6
  have HO6 := Lib.hid (only_trans (only_of_below (g := g) (bstep HB.out HBA.out)) hO6)
  clear gG gK hlk hG6 hO6
  go_wp2
  rw [rounds_succ]
  go_wp2
  go_ret
  exact ⟨rfl, HG6.out, HO6.out⟩
theorem mark_good (V : VA) (g s : Nat) (z : Nat → Int) (a n : Int) (w : World) (hV : MV w V) (hS : Blk w s #[.int .i64 a, .int .i64 n] 53) (hG : Blk w g (tcells z) 3) (hr : rightT z = true) (hx : xr a n) :
    Calls Tryd.prog 33 #[.agg #[.slice (some ⟨g, 0, none⟩) 32 32], .slice (some ⟨s, 0, none⟩) 1 1] w (MarkedPost w g z a n) := by
  by_cases hn : n ≤ 128
  · exact mark_small V g s z a n w hV hS hG hr hx hn
  · exact mark_medium V g s z a n w hV hS hG hr hx (by omega)
end Go.Proofs.YtgjhdjfjfmbejaaDoor
