/-
  selionref07.Make, Extent and Merge; what lay in memory stays.
-/
import Derived.Test.YtgjhdjfjfmbejaaDoorMarkO
import Derived.Test.YtgjhdjfjfmbejaaDoorRefA
namespace Go.Proofs.YtgjhdjfjfmbejaaDoor
open Go.RowKit Go.Lib Go.Shelf
attribute [local go_sem] Oper.semAt_some

/-- A list that a law hands to a reference: what it is, and that it is short. -/
def RA (w : World) (v : Value) (o : Option (Nat → Int)) : Prop := AR w v o ∧ ∃ p n cap, v = .slice p n cap ∧ IC w p n ∧ n ≤ 34
theorem RA.below {w w' : World} {v : Value} {o : Option (Nat → Int)} (h : RA w v o) (hb : Below w.heap.size w w') : RA w' v o := by
  obtain ⟨h1, p, n, cap, rfl, h2, h3⟩ := h
  exact ⟨h1.below hb, p, n, cap, rfl, h2.below hb, h3⟩
theorem rright_ra (v : Value) (o : Option (Nat → Int)) (w : World) (h : RA w v o) : Calls Tryd.prog 23 #[v] w fun e w' => e = .returned (.bool o.isSome) ∧ w = w' := by
  obtain ⟨h1, p, n, cap, rfl, h2, h3⟩ := h
  cases o with
  | none => exact rright_no p n cap w h2 h3 h1
  | some z => obtain ⟨b, o, cap, e, hT, hr⟩ := h1; rw [e]; exact rright_yes b o cap z w hT hr
theorem rmake_any (w : World) : Calls Tryd.prog 27 #[] w fun e w' => e = .returned (.slice (some ⟨w.heap.size, 0, none⟩) 32 32) ∧ w' = w.alloc (.cells (tcells fun _ => 0) 3) := by
  have hmk := mk32m
  go_enter Tryd.func27, Tryd.ntmps27
  go_wp2
  go_ret
  exact ⟨rfl, rfl⟩
theorem rextent_yes (a n : Int) (w : World) (h : xr a n) :
    Calls Tryd.prog 40 #[.int .i64 a, .int .i64 n] w fun e w' => e = .returned (.bool true) ∧ w = w' := by
  obtain ⟨x1, x2, x3, x4, x5, x6⟩ := h
  have e3 : (a % 8 == 0) = true := by simpa using x3
  have x7 : a + n ≤ 4096 := by omega
  clear x3 x6
  go_enter Tryd.func40, Tryd.ntmps40
  go_wp2
  go_ret
  exact ⟨rfl, rfl⟩
theorem rextent_no (a n : Int) (w : World) (h : ¬ xr a n) :
    Calls Tryd.prog 40 #[.int .i64 a, .int .i64 n] w fun e w' => e = .returned (.bool false) ∧ w = w' := by
  by_cases x1 : 0 ≤ a
  · by_cases x2 : a < 4096
    · by_cases x3 : a % 8 = 0
      · have e3 : (a % 8 == 0) = true := by simpa using x3
        by_cases x4 : 1 ≤ n
        · by_cases x5 : n ≤ 2048
          · have x6 : ¬ a + n ≤ 4096 := fun x6 => h ⟨x1, x2, x3, x4, x5, by omega⟩
            have x6' : decide (a + n ≤ 4096) = false := by simp; omega
            clear x3 h x6
            go_enter Tryd.func40, Tryd.ntmps40
            go_wp2
            go_ret
            exact ⟨rfl, rfl⟩
          · clear x3 h
            go_enter Tryd.func40, Tryd.ntmps40
            go_wp2
            go_ret
            exact ⟨rfl, rfl⟩
        · clear x3 h
          go_enter Tryd.func40, Tryd.ntmps40
          go_wp2
          go_ret
          exact ⟨rfl, rfl⟩
      · have e3 : (a % 8 == 0) = false := by simpa using x3
        clear x3 h
        go_enter Tryd.func40, Tryd.ntmps40
        go_wp2
        go_ret
        exact ⟨rfl, rfl⟩
    · clear h
      go_enter Tryd.func40, Tryd.ntmps40
      go_wp2
      go_ret
      exact ⟨rfl, rfl⟩
  · clear h
    go_enter Tryd.func40, Tryd.ntmps40
    go_wp2
    go_ret
    exact ⟨rfl, rfl⟩

set_option maxRecDepth 100000 in
set_option maxHeartbeats 2000000 in
theorem rmerge_no1 (v u : Value) (w : World) (h : RA w v none) : Calls Tryd.prog 22 #[v, u] w (Made w none 70) := by
  have HR := Lib.hid (rright_ra v none w h)
  clear h
  go_enter Tryd.func22, Tryd.ntmps22
  go_wp2_with (go_at_call 23; ((with_reducible refine HR.out.mono ?_)); rintro e w' ⟨rfl, rfl⟩)
  go_ret2
  exact ⟨_, rfl, AR.nil _, fun _ => rfl, Below.refl _ _⟩
set_option maxRecDepth 100000 in
set_option maxHeartbeats 2000000 in
theorem rmerge_no2 (v u : Value) (z : Nat → Int) (w : World) (h : RA w v (some z)) (k : RA w u none) : Calls Tryd.prog 22 #[v, u] w (Made w none 70) := by
  have HR := Lib.hid (rright_ra v (some z) w h)
  have HU := Lib.hid (rright_ra u none w k)
  clear h k
  go_enter Tryd.func22, Tryd.ntmps22
  go_wp2_with fail
  ((with_reducible refine HR.out.mono ?_))
  rintro e w' ⟨rfl, rfl⟩
  go_wp2_with (go_at_call 23; ((with_reducible refine HU.out.mono ?_)); rintro e w' ⟨rfl, rfl⟩)
  go_ret2
  exact ⟨_, rfl, AR.nil _, fun _ => rfl, Below.refl _ _⟩

/-- The first k lines are merged, the others free. -/
def rmergeTo (z y : Nat → Int) (k i : Nat) : Int := if i < k then max (z i) (y i) else 0
theorem rmergeTo_succ (z y : Nat → Int) (k i : Nat) : (if i = k then max (z k) (y k) else rmergeTo z y k i) = rmergeTo z y (k + 1) i := by
  simp only [rmergeTo]
  by_cases e : i = k
  · subst e; rw [if_pos rfl, if_pos (by omega)]
  · rw [if_neg e]
    by_cases h : i < k
    · rw [if_pos h, if_pos (by omega)]
    · rw [if_neg h, if_neg (by omega)]
theorem rmergeTo_zero (z y : Nat → Int) : tcells (fun _ => 0) = tcells (rmergeTo z y 0) := tcells_congr fun i _ => by simp [rmergeTo]
set_option maxRecDepth 100000 in
set_option maxHeartbeats 2000000 in
theorem rmerge_yes (v u : Value) (z y : Nat → Int) (w : World) (h : AR w v (some z)) (k : AR w u (some y)) : Calls Tryd.prog 22 #[v, u] w (Made w (some (mergeZ z y)) 0) := by
  obtain ⟨b, o, cap, rfl, hT, hr⟩ := h
  obtain ⟨b', o', cap', rfl, hU, hq⟩ := k
  have HR := Lib.hid (rright_yes b o cap z w hT hr)
  have HQ := Lib.hid (rright_yes b' o' cap' y w hU hq)
  have HM := Lib.hid (mergeZ_right hr hq)
  have hTl := hT.lt
  have hUl := hU.lt
  have hbA := (Below.refl _ w).alloc (Nat.le_refl _) (.cells (tcells fun _ => 0) 3)
  have HT := Lib.hid (hT.below hbA)
  have HU := Lib.hid (hU.below hbA)
  have bG := Blk.new w (tcells fun _ => 0) 3
  rw [rmergeTo_zero z y] at bG
  have HG := Lib.hid bG
  have HB := Lib.hid hbA
  clear hT hr hU hq hbA bG
  go_enter Tryd.func22, Tryd.ntmps22
  go_wp2_with fail
  ((with_reducible refine HR.out.mono ?_))
  rintro e w' ⟨rfl, rfl⟩
  go_wp2_with fail
  ((with_reducible refine HQ.out.mono ?_))
  rintro e w' ⟨rfl, rfl⟩
  go_wp2_with (go_at_call 27; ((with_reducible refine (rmake_any _).mono ?_)); rintro e w' ⟨rfl, rfl⟩; rw [rmergeTo_zero z y] at HT HU HB ⊢)
  generalize w.alloc (.cells (tcells (rmergeTo z y 0)) 3) = W at HT HU HG HB ⊢
  go_loopw [7] (fun i wr => ∃ k : Nat, k ≤ 32 ∧ i = .int .i64 (k : Int) ∧ Blk wr w.heap.size (tcells (rmergeTo z y k)) 3 ∧ Tab wr b o z ∧ Tab wr b' o' y ∧ Below w.heap.size w wr) (fun i _ => 64 - (intOf i).toNat)
  case atStart => exact ⟨0, by omega, rfl, HG.out, HT.out, HU.out, HB.out⟩
  case round =>
    obtain ⟨k, hk, rfl, gG, gT, gU, gB⟩ := hrel
    have KG := Lib.hid gG
    have KT := Lib.hid gT
    have KU := Lib.hid gU
    have KB := Lib.hid gB
    clear HG HT HU HB
    by_cases hlt : k < 32
    · have cG := gG.cell (tcells_get (rmergeTo z y k) k hlt)
      have fG := gG.frozen k
      have cT := gT k hlt
      have cU := gU k hlt
      have HS := Lib.hid (tcells_congr (fun i (_ : i < 32) => rmergeTo_succ z y k i))
      generalize z k = p at cT HS
      generalize y k = q at cU HS
      have i0 : (0 : Int) ≤ (k : Int) := by omega
      have i1 : (k : Int) < 32 := by omega
      have hne : b ≠ w.heap.size := by omega
      have hne' : b' ≠ w.heap.size := by omega
      clear gG gT gU gB
      by_cases hc : p < q
      · rw [Int.max_eq_right (by omega)] at HS
        go_wp2
        go_region
        all_goals go_wp2
        all_goals go_roundw
        all_goals (try (case rel =>
          refine ⟨k + 1, by omega, by go_num, ?_, fun i hi => ?_, fun i hi => ?_, (KB.out.setCell (p := ⟨w.heap.size, k, none⟩) (Nat.le_refl _) _).drew⟩
          · have h1 := KG.out.set k (.int .i64 q)
            rw [tcells_set _ _ _ hlt, HS.out] at h1
            exact h1.drew
          · exact (World.cell?_of_block (a := ⟨b, o + i, none⟩) (Below.heap_setCell wr ⟨w.heap.size, k, none⟩ (.int .i64 q) b hne)).trans (KT.out i hi)
          · exact (World.cell?_of_block (a := ⟨b', o' + i, none⟩) (Below.heap_setCell wr ⟨w.heap.size, k, none⟩ (.int .i64 q) b' hne')).trans (KU.out i hi)))
        all_goals (simp [intOf]; omega)
      · rw [Int.max_eq_left (by omega)] at HS
        have hc' : q ≤ p := by omega
        clear hc
        go_wp2
        go_region
        all_goals go_wp2
        all_goals go_roundw
        all_goals (try (case rel =>
          refine ⟨k + 1, by omega, by go_num, ?_, fun i hi => ?_, fun i hi => ?_, (KB.out.setCell (p := ⟨w.heap.size, k, none⟩) (Nat.le_refl _) _).drew⟩
          · have h1 := KG.out.set k (.int .i64 p)
            rw [tcells_set _ _ _ hlt, HS.out] at h1
            exact h1.drew
          · exact (World.cell?_of_block (a := ⟨b, o + i, none⟩) (Below.heap_setCell wr ⟨w.heap.size, k, none⟩ (.int .i64 p) b hne)).trans (KT.out i hi)
          · exact (World.cell?_of_block (a := ⟨b', o' + i, none⟩) (Below.heap_setCell wr ⟨w.heap.size, k, none⟩ (.int .i64 p) b' hne')).trans (KU.out i hi)))
        all_goals (simp [intOf]; omega)
    · obtain rfl : k = 32 := by omega
      have hfin : Tab wr w.heap.size 0 (mergeZ z y) := fun i hi => by
        have := gG.tab i hi
        rwa [show rmergeTo z y 32 i = mergeZ z y i by simp only [rmergeTo, mergeZ]; rw [if_pos hi]] at this
      have HFIN := Lib.hid hfin
      clear hfin gG gT gU gB
      go_wp2
      go_ret2
      exact ⟨_, rfl, ⟨_, 0, 32, rfl, HFIN.out, HM.out⟩, (fun h => by cases h), KB.out⟩
end Go.Proofs.YtgjhdjfjfmbejaaDoor
