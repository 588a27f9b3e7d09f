/-
  addr.Class.
-/
import Derived.Test.YtgjhdjfjfmbejaaDoorAdI

namespace Go.Proofs.YtgjhdjfjfmbejaaDoor.Ad
open Go.RowKit Go.Lib Go.Shelf
attribute [local go_sem] Oper.semAt_some
open Go.RowKit Go.Lib

/-- One check, behind the box of the number. -/
theorem chkC (a : Int) (b : Bool) (X : Addr) (w : World) :
    (((((w.alloc (.cells #[.int .i64 a] 3)).alloc (.cells #[.bool b] 4)).alloc (.cells #[.iface 113 (.pointer (some X))] 46)).alloc (.cells #[.func (.func 55) #[] #[.pointer (some ⟨w.heap.size + 1, 0, none⟩), .pointer (some ⟨w.heap.size + 1 + 1, 0, none⟩)]] 58)).drew).cell? ⟨w.heap.size + 1 + 1 + 1, 0, none⟩ = some (.func (.func 55) #[] #[.pointer (some ⟨w.heap.size + 1, 0, none⟩), .pointer (some ⟨w.heap.size + 1 + 1, 0, none⟩)]) ∧
    (((((w.alloc (.cells #[.int .i64 a] 3)).alloc (.cells #[.bool b] 4)).alloc (.cells #[.iface 113 (.pointer (some X))] 46)).alloc (.cells #[.func (.func 55) #[] #[.pointer (some ⟨w.heap.size + 1, 0, none⟩), .pointer (some ⟨w.heap.size + 1 + 1, 0, none⟩)]] 58)).drew).cell? ⟨w.heap.size + 1, 0, none⟩ = some (.bool b) ∧ (((((w.alloc (.cells #[.int .i64 a] 3)).alloc (.cells #[.bool b] 4)).alloc (.cells #[.iface 113 (.pointer (some X))] 46)).alloc (.cells #[.func (.func 55) #[] #[.pointer (some ⟨w.heap.size + 1, 0, none⟩), .pointer (some ⟨w.heap.size + 1 + 1, 0, none⟩)]] 58)).drew).cell? ⟨w.heap.size + 1 + 1, 0, none⟩ = some (.iface 113 (.pointer (some X))) ∧
    Blk (((((w.alloc (.cells #[.int .i64 a] 3)).alloc (.cells #[.bool b] 4)).alloc (.cells #[.iface 113 (.pointer (some X))] 46)).alloc (.cells #[.func (.func 55) #[] #[.pointer (some ⟨w.heap.size + 1, 0, none⟩), .pointer (some ⟨w.heap.size + 1 + 1, 0, none⟩)]] 58)).drew) w.heap.size #[.int .i64 a] 3 ∧ Below w.heap.size w (((((w.alloc (.cells #[.int .i64 a] 3)).alloc (.cells #[.bool b] 4)).alloc (.cells #[.iface 113 (.pointer (some X))] 46)).alloc (.cells #[.func (.func 55) #[] #[.pointer (some ⟨w.heap.size + 1, 0, none⟩), .pointer (some ⟨w.heap.size + 1 + 1, 0, none⟩)]] 58)).drew) := by
  have b0 := Blk.new w #[.int .i64 a] 3
  have hb := (Below.refl w.heap.size w).alloc (Nat.le_refl _) (.cells #[.int .i64 a] 3)
  have hs : (w.alloc (.cells #[.int .i64 a] 3)).heap.size = w.heap.size + 1 := by simp
  generalize w.alloc (.cells #[.int .i64 a] 3) = w1 at b0 hb hs ⊢
  have h := chk1 b X w1
  rw [hs] at h
  exact ⟨h.1, h.2.1, h.2.2.1, (b0.below' (by rw [hs]; exact h.2.2.2)), hb.trans (h.2.2.2.mono (by omega))⟩
theorem rC_no (a : Int) (w : World) (aA aS aR : Addr) (hV : AV w aA aS aR) :
    Calls Tryd.prog 35 #[.slice (some ⟨w.heap.size + 1 + 1 + 1, 0, none⟩) 1 1] (((((w.alloc (.cells #[.int .i64 a] 3)).alloc (.cells #[.bool false] 4)).alloc (.cells #[.iface 113 (.pointer (some aS))] 46)).alloc (.cells #[.func (.func 55) #[] #[.pointer (some ⟨w.heap.size + 1, 0, none⟩), .pointer (some ⟨w.heap.size + 1 + 1, 0, none⟩)]] 58)).drew) fun e w' => e = .returned (.int .i64 11) ∧ ((((w.alloc (.cells #[.int .i64 a] 3)).alloc (.cells #[.bool false] 4)).alloc (.cells #[.iface 113 (.pointer (some aS))] 46)).alloc (.cells #[.func (.func 55) #[] #[.pointer (some ⟨w.heap.size + 1, 0, none⟩), .pointer (some ⟨w.heap.size + 1 + 1, 0, none⟩)]] 58)).drew = w' :=
  let h := chkC a false aS w
  refused1_noS _ _ _ aA aS aR _ (hV.below h.2.2.2.2) h.1 h.2.1 h.2.2.1
theorem rC_yes (a : Int) (X : Addr) (w : World) :
    Calls Tryd.prog 35 #[.slice (some ⟨w.heap.size + 1 + 1 + 1, 0, none⟩) 1 1] (((((w.alloc (.cells #[.int .i64 a] 3)).alloc (.cells #[.bool true] 4)).alloc (.cells #[.iface 113 (.pointer (some X))] 46)).alloc (.cells #[.func (.func 55) #[] #[.pointer (some ⟨w.heap.size + 1, 0, none⟩), .pointer (some ⟨w.heap.size + 1 + 1, 0, none⟩)]] 58)).drew) fun e w' => e = .returned (.int .i64 0) ∧ ((((w.alloc (.cells #[.int .i64 a] 3)).alloc (.cells #[.bool true] 4)).alloc (.cells #[.iface 113 (.pointer (some X))] 46)).alloc (.cells #[.func (.func 55) #[] #[.pointer (some ⟨w.heap.size + 1, 0, none⟩), .pointer (some ⟨w.heap.size + 1 + 1, 0, none⟩)]] 58)).drew = w' :=
  let h := chkC a true X w
  refused1_yes _ _ _ _ h.1 h.2.1
set_option maxRecDepth 100000 in
set_option maxHeartbeats 1000000 in
theorem class_no (a : Int) (w : World) (aA aS aR : Addr) (hV : AV w aA aS aR) (h : a < 1 ∨ 131072 < a) :
    Calls Tryd.prog 53 #[.int .i64 a] w fun e w' => e = .returned (.tuple #[.int .i64 0, .int .i64 11]) ∧ Below w.heap.size w w' := by
  have cX := hV.cS.1
  have cN : (w.alloc (.cells #[.int .i64 a] 3)).cell? ⟨w.heap.size, 0, none⟩ = some (.int .i64 a) := (Blk.new w _ _).cell rfl
  have H := Lib.hid h
  clear h
  go_enter Tryd.func53, Tryd.ntmps53
  go_wp2_with fail
  go_step3
  go_wp2_with fail
  go_region_held3 (fun w' => w'.cell? ⟨3, 0, none⟩ = some (.iface 113 (.pointer (some aS))) ∧ w'.cell? ⟨w.heap.size, 0, none⟩ = some (.int .i64 a))
    (first | (refine ⟨?_, ?_⟩ <;> (show World.cell? _ _ = _; repeat' (with_reducible first | exact cX | exact cN | refine cell_dr ?_ | refine cell_al _ ?_))))
    (first
      | (go_at_call 63; ((with_reducible refine (isSize_no a _ H.out).mono ?_)); rintro e w' ⟨rfl, rfl⟩)
      | (go_at_call 36; ((with_reducible refine (unless_any _ aS _).mono ?_)); rintro e w' ⟨rfl, rfl⟩)
      | (go_at_call 35; ((with_reducible refine (rC_no a w aA aS aR hV).mono ?_)); rintro e w' ⟨rfl, rfl⟩))
  go_wp2
  try rw [Exit.noGoto_ret]
  go_ret2
  exact ⟨rfl, (chkC a false aS w).2.2.2.2⟩
def classF (a : Int) : Int := if a ≤ 128 then 1 else if a ≤ 2048 then 2 else 3
/-- Of all that have come none is great enough. -/
def clsPure (a : Int) (pre : List (Int × Int)) : Prop := ∀ x ∈ pre, x.2 < a
/-- The last one that has come is great enough, and its class is laid. -/
def clsOut (a : Int) (C : Nat) (pre : List (Int × Int)) (W : World) : Prop := ∃ q, (∃ pre', pre = pre' ++ [q] ∧ clsPure a pre' ∧ a ≤ q.2) ∧ Blk W C #[.int .i64 q.1] 3
theorem clsOut_own (a : Int) (C B : Nat) : OwnFrom B (clsOut a C) := fun s A B row hs hg hr => by
  obtain ⟨q, h1, h2⟩ := hs
  exact ⟨q, h1, (blk_own (β := Unit) _ _ (fun _ => #[.int .i64 q.1])).from _ () A B row h2 hg hr⟩
theorem class_stop (a : Int) (pre : List (Int × Int)) (q : Int × Int) (hS : pre ++ [q] <+: cls3) (h : 1 ≤ a) (h3 : ∀ x ∈ pre, x.2 < a) (h4 : a ≤ q.2) : q.1 = classF a := by
  obtain ⟨rest, hr⟩ := hS
  rcases pre with _ | ⟨x0, _ | ⟨x1, _ | ⟨x2, _ | ⟨x3, rr⟩⟩⟩⟩
  · simp [cls3] at hr
    obtain ⟨rfl, _⟩ := hr
    simp at h4
    simp [classF, h4]
  · simp [cls3] at hr
    obtain ⟨rfl, rfl, _⟩ := hr
    have := h3 _ (List.mem_cons_self)
    simp at h4 this
    simp [classF, h4]; omega
  · simp [cls3] at hr
    obtain ⟨rfl, rfl, rfl, _⟩ := hr
    have := h3 (2, 2048) (by simp)
    simp at h4 this
    simp [classF]; omega
  · simp [cls3] at hr
  · simp [cls3] at hr
set_option maxRecDepth 100000 in
set_option maxHeartbeats 2000000 in
theorem class_yes (a : Int) (w : World) (aA aS aR : Addr) (hV : AV w aA aS aR) (h : 1 ≤ a) (h' : a ≤ 131072) :
    Calls Tryd.prog 53 #[.int .i64 a] w fun e w' => e = .returned (.tuple #[.int .i64 (classF a), .int .i64 0]) ∧ Below w.heap.size w w' := by
  have cX := hV.cS.1
  have cN : (w.alloc (.cells #[.int .i64 a] 3)).cell? ⟨w.heap.size, 0, none⟩ = some (.int .i64 a) := (Blk.new w _ _).cell rfl
  refine (callsIn_wide (n := 9)).1 ?_
  refine callsIn_of_wp_marks Tryd.func53 rfl trivial ?_ rfl
  simp only [Tryd.ntmps53, List.size_toArray, List.length_cons, List.length_nil, Nat.reduceAdd, Nat.reduceSub, Array.replicate_succ, Array.replicate_zero, List.push_toArray, List.append_toArray, List.nil_append, List.cons_append]
  refine wpIn_wide.2 ?_
  go_wp2_with fail
  go_step3
  go_wp2_with fail
  go_region_held3 (fun w' => w'.cell? ⟨3, 0, none⟩ = some (.iface 113 (.pointer (some aS))) ∧ w'.cell? ⟨w.heap.size, 0, none⟩ = some (.int .i64 a))
    (first | (refine ⟨?_, ?_⟩ <;> (show World.cell? _ _ = _; repeat' (with_reducible first | exact cX | exact cN | refine cell_dr ?_ | refine cell_al _ ?_))))
    (first
      | (go_at_call 63; ((with_reducible refine (isSize_yes a _ h h').mono ?_)); rintro e w' ⟨rfl, rfl⟩)
      | (go_at_call 36; ((with_reducible refine (unless_any _ aS _).mono ?_)); rintro e w' ⟨rfl, rfl⟩)
      | (go_at_call 35; ((with_reducible refine (rC_yes a aS w).mono ?_)); rintro e w' ⟨rfl, rfl⟩))
  obtain ⟨_, _, _, bN, hB0⟩ := chkC a true aS w
  have hV0 := hV.below hB0
  clear cX cN hV
  generalize ((((w.alloc (.cells #[.int .i64 a] 3)).alloc (.cells #[.bool true] 4)).alloc (.cells #[.iface 113 (.pointer (some aS))] 46)).alloc (.cells #[.func (.func 55) #[] #[.pointer (some ⟨w.heap.size + 1, 0, none⟩), .pointer (some ⟨w.heap.size + 1 + 1, 0, none⟩)]] 58)).drew = W1 at bN hB0 hV0 ⊢
  go_wp2_with fail
  go_step3
  go_wp2_with (go_at_call 64; ((with_reducible refine (classes_any _).mono ?_)); rintro e w' ⟨rfl, rfl⟩)
  refine (wpIn_wide (n := 9)).1 ?_
  have bC := Blk.new W1 #[.int .i64 0] 3
  have hNC := bN.lt
  replace bN := bN.alloc (.cells #[.int .i64 0] 3)
  have hV2 := hV0.below ((Below.refl _ W1).alloc (Nat.le_refl _) (.cells #[.int .i64 0] 3))
  replace hB0 := hB0.alloc hB0.size (.cells #[.int .i64 0] 3)
  have hsz : (W1.alloc (.cells #[.int .i64 0] 3)).heap.size = W1.heap.size + 1 := by simp
  have hle : w.heap.size ≤ W1.heap.size := by omega
  clear hV0
  generalize W1.alloc (.cells #[.int .i64 0] 3) = W2 at bN bC hV2 hB0 hsz ⊢
  have HSZ := Lib.hid hsz
  clear hsz
  refine wpIn_rangeFunc_ownH rfl (by omega) (gf := 65) (lb := #[]) rfl trivial (enters_of Tryd.func65 (by kernel_rfl) rfl)
    (seqStopsA_iff.1 (classes1_stops _ (by omega) _ aA aS aR hV2)) (fun h k => walksK_t h k) walksK_b (Below.refl _ _) (fun _ => rfl)
    (fun pre W => Blk W w.heap.size #[.int .i64 a] 3 ∧ Blk W W1.heap.size #[.int .i64 0] 3 ∧ clsPure a pre ∧ Below w.heap.size w W)
    (fun c pre W => c = .exit 0 ∧ clsOut a W1.heap.size pre W ∧ Below w.heap.size w W)
    (((blk_own _ _ _).from _).and (((blk_own _ _ _).from _).and ((ownFrom_pure _ _).and (ownFrom_below (Nat.le_refl _) (by have := HSZ.out; omega)))))
    (fun c => (ownFrom_pure _ _).and ((clsOut_own _ _ _).and (ownFrom_below (Nat.le_refl _) (by have := HSZ.out; omega))))
    ⟨bN, bC, (fun _ h => by cases h), hB0⟩
    (fun x a' W => ∃ Bx, (W1.heap.size < Bx ∧ a' = { tmps := #[.int .i64 a, .pointer (some ⟨w.heap.size, 0, none⟩), .int .i64 0, .int .i64 0, .int .i64 0, .pointer (some ⟨W1.heap.size, 0, none⟩), .pointer (some ⟨Bx, 0, none⟩), .int .i64 a, .bool true, .iface 113 (.pointer (some aS)), .func (.func 55) #[] #[.pointer (some ⟨w.heap.size + 1, 0, none⟩), .pointer (some ⟨w.heap.size + 1 + 1, 0, none⟩)], .slice (some ⟨w.heap.size + 1 + 1 + 1, 0, none⟩) 1 1, .int .i64 0, .int .i64 0, .bool false, undef, .func (.func 65) #[] #[], .agg #[.int .i64 x.1, .int .i64 x.2], undef, undef, undef, undef, undef, undef, undef], defers := [] }) ∧ Blk W Bx #[.int .i64 x.1, .int .i64 x.2] 100)
    (fun x a' s A B row hs hg hr => by obtain ⟨Bx, h1, h2⟩ := hs; exact ⟨Bx, h1, (blk_own (β := Unit) _ _ (fun _ => #[.int .i64 x.1, .int .i64 x.2])).from _ () A B row h2 hg hr⟩)
    ?assign ?body ?done ?stop
  case assign =>
    rintro l pre x W K ⟨g1, g2, g3, g4⟩ hK
    gi_wp2
    exact hK _ _ ((KeepsOthers.alloc _ _).from _) (KeepsOthers.alloc _ _).walks ⟨g1.alloc _, g2.alloc _, g3, g4.alloc g4.size _⟩ ⟨W.heap.size, ⟨g2.lt, rfl⟩, Blk.new W _ _⟩
  case body =>
    rintro l pre ⟨q, m⟩ a' W hl _ ⟨g1, g2, g3, g4⟩ ⟨Bx, ⟨hBx, rfl⟩, bX⟩ hlen
    have c1 : W.cell? ⟨w.heap.size, 0, none⟩ = some (.int .i64 a) := g1.cell rfl
    have c2 : W.cell? ⟨W1.heap.size, 0, none⟩ = some (.int .i64 0) := g2.cell rfl
    have f2 := g2.frozen 0
    have c3 : W.cell? ⟨Bx, 0, none⟩ = some (.int .i64 q) := bX.cell rfl
    have c4 : W.cell? ⟨Bx, 1, none⟩ = some (.int .i64 m) := bX.cell rfl
    have G3 := Lib.hid g3
    clear g3
    by_cases hm : a ≤ m
    · gi_wp2
      exact ⟨(KeepsOthers.setCell _ _ _).from _, rfl, ⟨(q, m), ⟨pre, rfl, G3.out, hm⟩, g2.set 0 _⟩, g4.setCell (p := ⟨W1.heap.size, 0, none⟩) hle _⟩
    · have hd : decide (a ≤ m) = false := by simpa using hm
      gi_wp2
      refine ⟨KeepsFrom.refl _ _, KeepsWalks.refl _, g1, g2, ?_, g4⟩
      intro x hx
      rcases List.mem_append.1 hx with hx | hx
      · exact G3.out x hx
      · simp at hx; subst hx; simp; omega
  case done =>
    rintro D xs W hD rfl ⟨g1, g2, g3, g4⟩ hK
    have := g3 (3, 131072) (by simp [cls3])
    simp at this
    omega
  case stop =>
    rintro D c pre W hD hSp ⟨rfl, ⟨q, ⟨pre', rfl, h3, h4⟩, g2⟩, hB⟩ hK
    have hq : q.1 = classF a := class_stop a pre' q hSp h h3 h4
    have c2 : W.cell? ⟨W1.heap.size, 0, none⟩ = some (.int .i64 q.1) := g2.cell rfl
    rw [hq] at c2
    clear hSp h3 h4 hq
    gi_wp2
    go_wp2
    try rw [Exit.noGoto_ret]
    refine ⟨by simp, .inl ⟨_, _, rfl, run_takeDeferred hK, ?_⟩⟩
    exact ⟨_, results_tmp2 rfl _ _ _, rfl, hB.trans (belowK_b (w := W2) (by have := HSZ.out; omega) _ D _ _ hD hK rfl rfl)⟩
theorem class1 (a : Int) (w : World) (aA aS aR : Addr) (hV : AV w aA aS aR) (h : 1 ≤ a) (h' : a ≤ 128) :
    Calls Tryd.prog 53 #[.int .i64 a] w fun e w' => e = .returned (.tuple #[.int .i64 1, .int .i64 0]) ∧ Below w.heap.size w w' := by
  have := class_yes a w aA aS aR hV h (by omega); rwa [show classF a = 1 by simp [classF, h']] at this
theorem class2 (a : Int) (w : World) (aA aS aR : Addr) (hV : AV w aA aS aR) (h : 128 < a) (h' : a ≤ 2048) :
    Calls Tryd.prog 53 #[.int .i64 a] w fun e w' => e = .returned (.tuple #[.int .i64 2, .int .i64 0]) ∧ Below w.heap.size w w' := by
  have := class_yes a w aA aS aR hV (by omega) (by omega); rwa [show classF a = 2 by simp [classF, h']; omega] at this
theorem class3 (a : Int) (w : World) (aA aS aR : Addr) (hV : AV w aA aS aR) (h : 2048 < a) (h' : a ≤ 131072) :
    Calls Tryd.prog 53 #[.int .i64 a] w fun e w' => e = .returned (.tuple #[.int .i64 3, .int .i64 0]) ∧ Below w.heap.size w w' := by
  have := class_yes a w aA aS aR hV (by omega) h'; rwa [show classF a = 3 by simp [classF]; omega] at this
end Go.Proofs.YtgjhdjfjfmbejaaDoor.Ad
