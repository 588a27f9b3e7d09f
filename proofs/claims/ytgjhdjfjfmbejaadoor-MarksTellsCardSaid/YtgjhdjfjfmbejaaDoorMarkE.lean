/-
  marks.Mark and marks.Merge: the new table, or the error's number; what lay in memory stays.
-/
import Derived.Test.YtgjhdjfjfmbejaaDoorMarkD
import Derived.Test.YtgjhdjfjfmbejaaDoorHoleKept
namespace Go.Proofs.YtgjhdjfjfmbejaaDoor
open Go.RowKit Go.Lib Go.Shelf
attribute [local go_sem] Oper.semAt_some

theorem only_below {n0 g : Nat} {w a b : World} (hb : Below n0 w a) (h : Only g a b) (hg : n0 ≤ g) (hs : n0 ≤ a.heap.size) : Below n0 w b := hb.grown h hs (fun k ek => by cases ek; exact hg)
/-- A new table that holds the numbers z. -/
def TabPost (w : World) (z : Nat → Int) (e : Ending) (w' : World) : Prop := ∃ g, e = .returned (.tuple #[.slice (some ⟨g, 0, none⟩) 32 32, .int .i64 0]) ∧ Tab w' g 0 z ∧ Below w.heap.size w w'

set_option maxRecDepth 100000 in
set_option maxHeartbeats 2000000 in
theorem Mark_table (v : Value) (V : VA) (a n : Int) (w : World) (hV : MV w V) (h : NoTab w v) :
    Calls Tryd.prog 12 #[v, .int .i64 a, .int .i64 n] w fun e w' => e = .returned (.tuple #[.slice none 0 0, .int .i64 70]) ∧ Below w.heap.size w w' := by
  have HV := Lib.hid hV
  have HA := Lib.hid h
  clear hV h
  go_enter Tryd.func12, Tryd.ntmps12
  go_wp2_with (go_at_call 14; ((with_reducible refine (right_none _ _ HA.out).mono ?_)); rintro e w1 ⟨rfl, hb⟩; replace HV := Lib.hid (HV.out.below hb); have HB := Lib.hid hb; have cT := HV.out.cT.1; clear hb)
  ((with_reducible refine (number_table V _ HV.out).mono ?_))
  rintro e w' ⟨rfl, rfl⟩
  go_wp2
  go_ret2
  exact ⟨rfl, HB.out⟩

set_option maxRecDepth 100000 in
set_option maxHeartbeats 2000000 in
theorem Mark_bad (b o cap : Nat) (z : Nat → Int) (V : VA) (a n : Int) (w : World) (hV : MV w V) (hT : Tab w b o z) (hr : rightT z = true) (hx : ¬ xr a n) :
    Calls Tryd.prog 12 #[.slice (some ⟨b, o, none⟩) 32 cap, .int .i64 a, .int .i64 n] w fun e w' => e = .returned (.tuple #[.slice none 0 0, .int .i64 11]) ∧ Below w.heap.size w w' := by
  have HV := Lib.hid hV
  have HT := Lib.hid hT
  have HR := Lib.hid hr
  have HX := Lib.hid hx
  clear hV hT hr hx
  go_enter Tryd.func12, Tryd.ntmps12
  go_wp2_with (first
    | (go_at_call 14; ((with_reducible refine (right_yes b o cap z _ HT.out HR.out).mono ?_)); rintro e w1 ⟨rfl, hb⟩; replace HV := Lib.hid (HV.out.below hb); replace HT := Lib.hid (HT.out.below hb); have HB := Lib.hid hb; clear hb)
    | (go_at_call 32; ((with_reducible refine (copied_any b o cap z _ HT.out).mono ?_)); rintro e w2 ⟨rfl, hG, hb, hs⟩; replace HV := Lib.hid (HV.out.below hb); replace HB := Lib.hid (bstep HB.out hb); have HS := Lib.hid hs; clear hb hG hs))
  obtain ⟨_, b1, hB0, _⟩ := blk2 w2 #[.slice (some ⟨w1.heap.size, 0, none⟩) 32 32] #[.int .i64 a, .int .i64 n] 50 53
  replace HV := Lib.hid (HV.out.below hB0)
  replace HB := Lib.hid (bstep HB.out hB0)
  generalize (w2.alloc (.cells #[.slice (some ⟨w1.heap.size, 0, none⟩) 32 32] 50)).alloc (.cells #[.int .i64 a, .int .i64 n] 53) = W3 at b1 hB0 HV HB ⊢
  ((with_reducible refine (mark_bad V _ _ a n _ HV.out b1 HX.out).mono ?_))
  rintro e w4 ⟨rfl, hb⟩
  replace HV := Lib.hid (HV.out.below hb)
  replace HB := Lib.hid (bstep HB.out hb)
  clear hb hB0 b1
  go_wp2_with (go_at_call 31; ((with_reducible refine (number_size V _ HV.out).mono ?_)); rintro e w' ⟨rfl, rfl⟩)
  go_ret2
  exact ⟨rfl, HB.out⟩

set_option maxRecDepth 100000 in
set_option maxHeartbeats 2000000 in
theorem Mark_good (b o cap : Nat) (z : Nat → Int) (V : VA) (a n : Int) (w : World) (hV : MV w V) (hT : Tab w b o z) (hr : rightT z = true) (hx : xr a n) :
    Calls Tryd.prog 12 #[.slice (some ⟨b, o, none⟩) 32 cap, .int .i64 a, .int .i64 n] w (TabPost w (markZ z a n)) := by
  have HV := Lib.hid hV
  have HT := Lib.hid hT
  have HR := Lib.hid hr
  have HX := Lib.hid hx
  clear hV hT hr hx
  go_enter Tryd.func12, Tryd.ntmps12
  go_wp2_with (first
    | (go_at_call 14; ((with_reducible refine (right_yes b o cap z _ HT.out HR.out).mono ?_)); rintro e w1 ⟨rfl, hb⟩; replace HV := Lib.hid (HV.out.below hb); replace HT := Lib.hid (HT.out.below hb); have HB := Lib.hid hb; clear hb)
    | (go_at_call 32; ((with_reducible refine (copied_any b o cap z _ HT.out).mono ?_)); rintro e w2 ⟨rfl, hG, hb, hs⟩; have hw1 : w.heap.size ≤ w1.heap.size := HB.out.size; replace HV := Lib.hid (HV.out.below hb); replace HB := Lib.hid (bstep HB.out hb); have HS := Lib.hid hs; have HG := Lib.hid hG; clear hb hG hs))
  obtain ⟨b0, b1, hB0, hsz⟩ := blk2 w2 #[.slice (some ⟨w1.heap.size, 0, none⟩) 32 32] #[.int .i64 a, .int .i64 n] 50 53
  replace HV := Lib.hid (HV.out.below hB0)
  replace HB := Lib.hid (bstep HB.out hB0)
  replace HG := Lib.hid (HG.out.below' hB0)
  generalize (w2.alloc (.cells #[.slice (some ⟨w1.heap.size, 0, none⟩) 32 32] 50)).alloc (.cells #[.int .i64 a, .int .i64 n] 53) = W3 at b0 b1 hB0 HV HB HG hsz ⊢
  ((with_reducible refine (mark_good V _ _ z a n _ HV.out b1 HG.out HR.out HX.out).mono ?_))
  rintro e w4 ⟨rfl, hG4, hO4⟩
  have c0 : w4.cell? ⟨w2.heap.size, 0, none⟩ = some (.slice (some ⟨w1.heap.size, 0, none⟩) 32 32) := (hO4.blk b0 (by have := HS.out; omega)).cell rfl
  have HB4 := Lib.hid (only_below HB.out hO4 hw1 HB.out.size)
  have HG4 := Lib.hid hG4.tab
  clear hG4 hO4 hB0 b0 b1 hsz
  go_wp2
  go_ret2
  exact ⟨_, rfl, HG4.out, HB4.out⟩

set_option maxRecDepth 100000 in
set_option maxHeartbeats 2000000 in
theorem Merge_no1 (v u : Value) (V : VA) (w : World) (hV : MV w V) (h : NoTab w v) :
    Calls Tryd.prog 21 #[v, u] w fun e w' => e = .returned (.tuple #[.slice none 0 0, .int .i64 70]) ∧ Below w.heap.size w w' := by
  have HV := Lib.hid hV
  have HA := Lib.hid h
  clear hV h
  go_enter Tryd.func21, Tryd.ntmps21
  go_wp2_with (go_at_call 14; ((with_reducible refine (right_none _ _ HA.out).mono ?_)); rintro e w1 ⟨rfl, hb⟩; replace HV := Lib.hid (HV.out.below hb); have HB := Lib.hid hb; have cT := HV.out.cT.1; clear hb)
  ((with_reducible refine (number_table V _ HV.out).mono ?_))
  rintro e w' ⟨rfl, rfl⟩
  go_wp2
  go_ret2
  exact ⟨rfl, HB.out⟩
set_option maxRecDepth 100000 in
set_option maxHeartbeats 2000000 in
theorem Merge_no2 (b o cap : Nat) (z : Nat → Int) (u : Value) (V : VA) (w : World) (hV : MV w V) (hT : Tab w b o z) (hr : rightT z = true) (h : NoTab w u) :
    Calls Tryd.prog 21 #[.slice (some ⟨b, o, none⟩) 32 cap, u] w fun e w' => e = .returned (.tuple #[.slice none 0 0, .int .i64 70]) ∧ Below w.heap.size w w' := by
  have HV := Lib.hid hV
  have HA := Lib.hid h
  have HC := Lib.hid (right_yes b o cap z w hT hr)
  clear hV h hT hr
  go_enter Tryd.func21, Tryd.ntmps21
  go_wp2_with fail
  ((with_reducible refine HC.out.mono ?_))
  rintro e w1 ⟨rfl, hb⟩
  replace HV := Lib.hid (HV.out.below hb)
  replace HA := Lib.hid (HA.out.below hb)
  have HB := Lib.hid hb
  clear hb HC
  go_wp2_with (go_at_call 14; ((with_reducible refine (right_none _ _ HA.out).mono ?_)); rintro e w2 ⟨rfl, hb⟩; replace HV := Lib.hid (HV.out.below hb); replace HB := Lib.hid (bstep HB.out hb); have cT := HV.out.cT.1; clear hb)
  ((with_reducible refine (number_table V _ HV.out).mono ?_))
  rintro e w' ⟨rfl, rfl⟩
  go_wp2
  go_ret2
  exact ⟨rfl, HB.out⟩

/-- The first k lines are merged. -/
def mergeTo (z y : Nat → Int) (k i : Nat) : Int := if i < k then max (z i) (y i) else z i
theorem mergeTo_succ (z y : Nat → Int) (k i : Nat) : (if i = k then max (mergeTo z y k k) (y k) else mergeTo z y k i) = mergeTo z y (k + 1) i := by
  simp only [mergeTo]
  by_cases e : i = k
  · subst e; rw [if_pos rfl, if_neg (Nat.lt_irrefl _), if_pos (by omega)]
  · rw [if_neg e]
    by_cases h : i < k
    · rw [if_pos h, if_pos (by omega)]
    · rw [if_neg h, if_neg (by omega)]
set_option maxRecDepth 100000 in
set_option maxHeartbeats 2000000 in
theorem Merge_yes (b o cap b' o' cap' : Nat) (z y : Nat → Int) (w : World) (hT : Tab w b o z) (hr : rightT z = true) (hU : Tab w b' o' y) (hq : rightT y = true) :
    Calls Tryd.prog 21 #[.slice (some ⟨b, o, none⟩) 32 cap, .slice (some ⟨b', o', none⟩) 32 cap'] w (TabPost w (mergeZ z y)) := by
  have HT := Lib.hid hT
  have HU := Lib.hid hU
  have HC := Lib.hid (right_yes b o cap z w hT hr)
  have HQ := Lib.hid hq
  have hUl := hU.lt
  clear hT hr hU hq
  go_enter Tryd.func21, Tryd.ntmps21
  go_wp2_with fail
  ((with_reducible refine HC.out.mono ?_))
  rintro e w1 ⟨rfl, hb⟩
  replace HT := Lib.hid (HT.out.below hb)
  replace HU := Lib.hid (HU.out.below hb)
  have HB := Lib.hid hb
  clear hb HC
  go_wp2_with (first
    | (go_at_call 14; ((with_reducible refine (right_yes b' o' cap' y _ HU.out HQ.out).mono ?_)); rintro e w2 ⟨rfl, hb⟩; replace HT := Lib.hid (HT.out.below hb); replace HU := Lib.hid (HU.out.below hb); replace HB := Lib.hid (bstep HB.out hb); clear hb)
    | (go_at_call 32; ((with_reducible refine (copied_any b o cap z _ HT.out).mono ?_)); rintro e w3 ⟨rfl, hG, hb, hs⟩; have hw1 : w.heap.size ≤ w2.heap.size := HB.out.size; replace HU := Lib.hid (HU.out.below hb); replace HB := Lib.hid (bstep HB.out hb); have HS := Lib.hid hs; have HG := Lib.hid hG; clear hb hG hs))
  obtain ⟨b0, hB0, hsz⟩ := blk1 w3 #[.slice (some ⟨w2.heap.size, 0, none⟩) 32 32] 50
  replace HU := Lib.hid (HU.out.below hB0)
  replace HB := Lib.hid (bstep HB.out hB0)
  replace HG := Lib.hid (HG.out.below' hB0)
  have hS3 : w3.heap.size = w2.heap.size + 1 := HS.out
  have hne : w2.heap.size ≠ w3.heap.size := by omega
  clear hS3
  generalize w3.alloc (.cells #[.slice (some ⟨w2.heap.size, 0, none⟩) 32 32] 50) = W4 at b0 hB0 HU HB HG hsz ⊢
  clear HT hB0 hsz
  have hbl : b' < w2.heap.size := by omega
  go_loopw [21] (fun i wr => ∃ k : Nat, k ≤ 32 ∧ i = .int .i64 (k : Int) ∧ Blk wr w2.heap.size (tcells (mergeTo z y k)) 3 ∧ Blk wr w3.heap.size #[.slice (some ⟨w2.heap.size, 0, none⟩) 32 32] 50 ∧ Tab wr b' o' y ∧ Below w.heap.size w wr) (fun i _ => 64 - (intOf i).toNat)
  case atStart => exact ⟨0, by omega, rfl, HG.out, b0, HU.out, HB.out⟩
  case round =>
    obtain ⟨k, hk, rfl, gG, gM, gU, gB⟩ := hrel
    have KG := Lib.hid gG
    have KM := Lib.hid gM
    have KU := Lib.hid gU
    have KB := Lib.hid gB
    clear HG b0 HU HB
    by_cases hlt : k < 32
    · have cM : wr.cell? ⟨w3.heap.size, 0, none⟩ = some (.slice (some ⟨w2.heap.size, 0, none⟩) 32 32) := gM.cell rfl
      have cG := gG.cell (tcells_get (mergeTo z y k) k hlt)
      have fG := gG.frozen k
      have cU := gU k hlt
      have HM := Lib.hid (tcells_congr (fun i (_ : i < 32) => mergeTo_succ z y k i))
      generalize mergeTo z y k k = p at cG HM
      generalize y k = q at cU HM
      have i0 : (0 : Int) ≤ (k : Int) := by omega
      have i1 : (k : Int) < 32 := by omega
      have hne' : b' ≠ w2.heap.size := by omega
      clear gG gM gU gB
      by_cases hc : p < q
      · rw [Int.max_eq_right (by omega)] at HM
        go_wp2
        go_region
        all_goals go_wp2
        all_goals go_roundw
        all_goals (try (case rel =>
          refine ⟨k + 1, by omega, by go_num, ?_, (KM.out.other (Ne.symm hne) _ _).drew, fun i hi => ?_, (KB.out.setCell (p := ⟨w2.heap.size, k, none⟩) hw1 _).drew⟩
          · have h1 := KG.out.set k (.int .i64 q)
            rw [tcells_set _ _ _ hlt, HM.out] at h1
            exact h1.drew
          · exact (World.cell?_of_block (a := ⟨b', o' + i, none⟩) (Below.heap_setCell wr ⟨w2.heap.size, k, none⟩ (.int .i64 q) b' hne')).trans (KU.out i hi)))
        all_goals (simp [intOf]; omega)
      · rw [Int.max_eq_left (by omega)] at HM
        have hc' : q ≤ p := by omega
        clear hc
        go_wp2
        go_region
        all_goals go_wp2
        all_goals go_roundw
        all_goals (try (case rel =>
          refine ⟨k + 1, by omega, by go_num, ?_, (KM.out.other (Ne.symm hne) _ _).drew, fun i hi => ?_, (KB.out.setCell (p := ⟨w2.heap.size, k, none⟩) hw1 _).drew⟩
          · have h1 := KG.out.set k (.int .i64 p)
            rw [tcells_set _ _ _ hlt, HM.out] at h1
            exact h1.drew
          · exact (World.cell?_of_block (a := ⟨b', o' + i, none⟩) (Below.heap_setCell wr ⟨w2.heap.size, k, none⟩ (.int .i64 p) b' hne')).trans (KU.out i hi)))
        all_goals (simp [intOf]; omega)
    · obtain rfl : k = 32 := by omega
      have cM : wr.cell? ⟨w3.heap.size, 0, none⟩ = some (.slice (some ⟨w2.heap.size, 0, none⟩) 32 32) := gM.cell rfl
      have hfin : Tab wr w2.heap.size 0 (mergeZ z y) := fun i hi => by
        have := gG.tab i hi
        rwa [show mergeTo z y 32 i = mergeZ z y i by simp only [mergeTo, mergeZ]; rw [if_pos hi]] at this
      have HFIN := Lib.hid hfin
      clear hfin gG gM gU gB
      go_wp2
      go_ret2
      exact ⟨_, rfl, HFIN.out, KB.out⟩
end Go.Proofs.YtgjhdjfjfmbejaaDoor
