/-
  selionlaw07.shown returns true; what lay in memory stays.
-/
import Derived.Test.YtgjhdjfjfmbejaaDoorMarkE
import Derived.Test.YtgjhdjfjfmbejaaDoorRefL
namespace Go.Proofs.YtgjhdjfjfmbejaaDoor
open Go.RowKit Go.Lib Go.Shelf
attribute [local go_sem] Oper.semAt_some

theorem xr1 : xr 120 40 := by unfold xr; omega
theorem xr2 : xr 256 300 := by unfold xr; omega
theorem xr3 : ¬ xr 4 8 := by unfold xr; omega
theorem right0 : rightT (fun _ => 0) = true := by decide +kernel
theorem kept1 : keptL (markZ (fun _ => 0) 120 40) 32 = [0, 1] := by decide +kernel
theorem kept2 : keptL (markZ (fun _ => 0) 256 300) 32 = [2, 3, 4] := by decide +kernel
theorem kept2n : ((keptL (markZ (fun _ => 0) 256 300) 32).length : Int) = 3 := by rw [kept2]; rfl
def ListsPost (w : World) (n : Nat) (xs : List Int) (e : Ending) (w' : World) : Prop := ∃ q c, e = .returned (.slice q n c) ∧ IL w' (.slice q n c) xs ∧ Below w.heap.size w w'
theorem lines_list (b o cap : Nat) (z : Nat → Int) (w : World) (hT : Tab w b o z) (hr : rightT z = true) :
    Calls Tryd.prog 19 #[.slice (some ⟨b, o, none⟩) 32 cap] w (ListsPost w (keptL z 32).length (intsL (keptL z 32))) := by
  refine (lines_yes b o cap z w hT hr).mono ?_
  rintro e w' ⟨v, rfl, ⟨g, rfl, hown⟩, hb⟩
  exact ⟨_, _, rfl, IL.own hown (by have := keptL_len z 32; omega), hb⟩
theorem lines_s (b o cap : Nat) (z : Nat → Int) (xs : List (Fin 32)) (hk : keptL z 32 = xs) (w : World) (hT : Tab w b o z) (hr : rightT z = true) :
    Calls Tryd.prog 19 #[.slice (some ⟨b, o, none⟩) 32 cap] w (ListsPost w xs.length (intsL xs)) := by
  subst hk; exact lines_list b o cap z w hT hr
theorem count_s (b o cap : Nat) (z : Nat → Int) (n : Int) (hk : ((keptL z 32).length : Int) = n) (w : World) (hT : Tab w b o z) (hr : rightT z = true) :
    Calls Tryd.prog 18 #[.slice (some ⟨b, o, none⟩) 32 cap] w fun e w' => e = .returned (.int .i64 n) ∧ Below w.heap.size w w' := by
  subst hk; exact count_yes b o cap z w hT hr
theorem il_blk {w : World} {g : Nat} {t : TypeId} {xs : List Int} (h : Blk w g (xs.map (Value.int .i64)).toArray t) (hl : xs.length ≤ 1000) (n : Nat) (hn : n = xs.length) : IL w (.slice (some ⟨g, 0, none⟩) n n) xs := by
  subst hn
  refine ⟨_, _, rfl, hl, fun i x hx => ⟨g, 0, rfl, ?_⟩⟩
  rw [Nat.zero_add]
  exact h.cell (by simp [hx])
theorem notab_nil' (w : World) : NoTab w (.slice none 0 0) := .inl ⟨none, 0, 0, rfl, by decide⟩

set_option maxRecDepth 100000 in
set_option maxHeartbeats 2000000 in
theorem shown7_any (V : VA) (w : World) (hV : MV w V) :
    Calls Tryd.prog 10 #[] w fun e w' => e = .returned (.bool true) ∧ Below w.heap.size w w' := by
  have HV := Lib.hid hV
  have HB := Lib.hid (Below.refl w.heap.size w)
  clear hV
  go_enter Tryd.func10, Tryd.ntmps10
  go_wp2_with fail
  ((with_reducible refine (make_any _).mono ?_))
  rintro e w1 ⟨rfl, rfl⟩
  go_wp2_with fail
  have hbA := (Below.refl _ w).alloc (Nat.le_refl _) (.cells (tcells fun _ => 0) 3)
  have hT := (Blk.new w (tcells fun _ => 0) 3).tab
  generalize w.alloc (.cells (tcells fun _ => 0) 3) = W1 at hbA hT ⊢
  ((with_reducible refine (Mark_good _ 0 32 _ V 120 40 _ (HV.out.below hbA) hT right0 xr1).mono ?_))
  rintro e w2 ⟨g1, rfl, hT1, hb⟩
  replace HV := Lib.hid (HV.out.below (bstep hbA hb))
  replace HB := Lib.hid (bstep HB.out (bstep hbA hb))
  have HT1 := Lib.hid hT1
  clear hb hbA hT hT1
  go_wp2_with fail
  ((with_reducible refine (make_any _).mono ?_))
  rintro e w1 ⟨rfl, rfl⟩
  go_wp2_with fail
  have hbA := (Below.refl _ w2).alloc (Nat.le_refl _) (.cells (tcells fun _ => 0) 3)
  have hT := (Blk.new w2 (tcells fun _ => 0) 3).tab
  generalize w2.alloc (.cells (tcells fun _ => 0) 3) = W2 at hbA hT ⊢
  ((with_reducible refine (Mark_good _ 0 32 _ V 256 300 _ (HV.out.below hbA) hT right0 xr2).mono ?_))
  rintro e w3 ⟨g2, rfl, hT2, hb⟩
  replace HV := Lib.hid (HV.out.below (bstep hbA hb))
  replace HB := Lib.hid (bstep HB.out (bstep hbA hb))
  replace HT1 := Lib.hid (HT1.out.below (bstep hbA hb))
  have HT2 := Lib.hid hT2
  clear hb hbA hT hT2
  go_wp2_with fail
  ((with_reducible refine (make_any _).mono ?_))
  rintro e w1 ⟨rfl, rfl⟩
  go_wp2_with fail
  have hbA := (Below.refl _ w3).alloc (Nat.le_refl _) (.cells (tcells fun _ => 0) 3)
  have hT := (Blk.new w3 (tcells fun _ => 0) 3).tab
  generalize w3.alloc (.cells (tcells fun _ => 0) 3) = W3 at hbA hT ⊢
  ((with_reducible refine (Mark_bad _ 0 32 _ V 4 8 _ (HV.out.below hbA) hT right0 xr3).mono ?_))
  rintro e w4 ⟨rfl, hb⟩
  replace HV := Lib.hid (HV.out.below (bstep hbA hb))
  replace HB := Lib.hid (bstep HB.out (bstep hbA hb))
  replace HT1 := Lib.hid (HT1.out.below (bstep hbA hb))
  replace HT2 := Lib.hid (HT2.out.below (bstep hbA hb))
  clear hb hbA hT
  go_wp2_with fail
  ((with_reducible refine (Mark_table _ V 0 8 _ HV.out (notab_nil' _)).mono ?_))
  rintro e w5 ⟨rfl, hb⟩
  replace HB := Lib.hid (bstep HB.out hb)
  replace HT1 := Lib.hid (HT1.out.below hb)
  replace HT2 := Lib.hid (HT2.out.below hb)
  clear hb HV
  go_wp2_with fail
  ((with_reducible refine (lines_s _ 0 32 _ [0, 1] kept1 _ HT1.out (markZ_right _ _ right0)).mono ?_))
  rintro e w6 ⟨q1, c1, rfl, hI, hb⟩
  replace hI : IL w6 (.slice q1 2 c1) [0, 1] := hI
  replace HB := Lib.hid (bstep HB.out hb)
  replace HT2 := Lib.hid (HT2.out.below hb)
  have HI := Lib.hid hI
  clear hb hI HT1
  go_wp2_with fail
  have hbA := (Below.refl _ w6).alloc (Nat.le_refl _) (.cells #[.int .i64 0, .int .i64 1] 3)
  have hJ : IL (w6.alloc (.cells #[.int .i64 0, .int .i64 1] 3)) (.slice (some ⟨w6.heap.size, 0, none⟩) 2 2) [0, 1] := il_blk (Blk.new w6 ([0, 1].map (Value.int .i64)).toArray 3) (by decide) 2 rfl
  ((with_reducible refine (ints_yes _ _ [0, 1] _ (HI.out.below hbA) hJ).mono ?_))
  rintro e w7 ⟨rfl, hb⟩
  replace HB := Lib.hid (bstep HB.out (bstep hbA hb))
  replace HT2 := Lib.hid (HT2.out.below (bstep hbA hb))
  clear hb hbA hJ HI
  go_wp2_with fail
  ((with_reducible refine (lines_s _ 0 32 _ [2, 3, 4] kept2 _ HT2.out (markZ_right _ _ right0)).mono ?_))
  rintro e w8 ⟨q2, c2, rfl, hI, hb⟩
  replace hI : IL w8 (.slice q2 3 c2) [2, 3, 4] := hI
  replace HB := Lib.hid (bstep HB.out hb)
  replace HT2 := Lib.hid (HT2.out.below hb)
  have HI := Lib.hid hI
  clear hb hI
  go_wp2_with fail
  have hbA := (Below.refl _ w8).alloc (Nat.le_refl _) (.cells #[.int .i64 2, .int .i64 3, .int .i64 4] 3)
  have hJ : IL (w8.alloc (.cells #[.int .i64 2, .int .i64 3, .int .i64 4] 3)) (.slice (some ⟨w8.heap.size, 0, none⟩) 3 3) [2, 3, 4] := il_blk (Blk.new w8 ([2, 3, 4].map (Value.int .i64)).toArray 3) (by decide) 3 rfl
  ((with_reducible refine (ints_yes _ _ [2, 3, 4] _ (HI.out.below hbA) hJ).mono ?_))
  rintro e w9 ⟨rfl, hb⟩
  replace HB := Lib.hid (bstep HB.out (bstep hbA hb))
  replace HT2 := Lib.hid (HT2.out.below (bstep hbA hb))
  clear hb hbA hJ HI
  go_wp2_with (go_at_call 18; ((with_reducible refine (count_s _ 0 32 _ 3 kept2n _ HT2.out (markZ_right _ _ right0)).mono ?_)); rintro e w10 ⟨rfl, hb⟩; replace HB := Lib.hid (bstep HB.out hb); clear hb)
  go_ret
  exact ⟨rfl, HB.out⟩
end Go.Proofs.YtgjhdjfjfmbejaaDoor
