/-
  addr.numbers and addr.find: the three numbers of an address.
-/
import Derived.Test.YtmikkbhillkpkaaDoorAdD
import Derived.RangeFuncNested
import Derived.RangeFuncBound
import Derived.RangeFuncCalls
import Derived.RangeFuncLeaves
import Derived.Shelf.Abstract
import Derived.Shelf.RegionOpen
import Derived.OwnWalkIn
import Derived.TacticsInMore
import Derived.LoopNIn
import Derived.LoopIn
import Derived.Laws.Rows
import Derived.Deep.RegionHeld3
import Derived.BigQuiet
import Derived.Deep.QuietTactic
import Derived.OwnWalk
import Derived.WalkSpells
namespace Go.Proofs.YtmikkbhillkpkaaDoor.Ad
open Go.RowKit Go.Lib Go.Shelf
attribute [local go_sem] Oper.semAt_some
open Go.RowKit Go.Lib

abbrev encs2 (p : Int × Int) : Array Value := #[.int .i64 p.1, .int .i64 p.2]
/-- The numbers of a place, each with what is left behind it. -/
def nums (a : Int) : List (Int × Int) := [(wrap64 (a.tdiv 4096), a.tmod 4096), (wrap64 ((a.tmod 4096).tdiv 128), a.tmod 128), (wrap64 (a.tmod 128), 0)]
set_option maxHeartbeats 1000000 in
theorem numbers1_stops (n : Nat) (hn : 1 ≤ n) (B : Nat) (a : Int) (w : World) (aA aS aR : Addr) (hV : AV w aA aS aR) (hB : w.cell? ⟨B, 0, none⟩ = some (.int .i64 a)) :
    SeqStopsA Fence.wide n Tryd.prog 59 #[.pointer (some ⟨B, 0, none⟩)] encs2 (fun xs => xs = nums a) (fun pre => pre <+: nums a) 3 w := fun l J Jx W hW hJ hJx hY h0 => by
  have hB' := cell_below hB hW
  have hw0 := cell_below hV.w0 hW
  have hw1 := cell_below hV.w1 hW
  have hw2 := cell_below hV.w2 hW
  clear hB hV hW hJ hJx
  have i0 : ∀ w, (Instr.index 92 (.agg #[.int .i64 4096, .int .i64 128, .int .i64 1]) (.int .i64 0)).run Tryd.prog w = .ok (.int .i64 4096) w := fun _ => by kernel_rfl
  have i1 : ∀ w, (Instr.index 92 (.agg #[.int .i64 4096, .int .i64 128, .int .i64 1]) (.int .i64 1)).run Tryd.prog w = .ok (.int .i64 128) w := fun _ => by kernel_rfl
  have i2 : ∀ w, (Instr.index 92 (.agg #[.int .i64 4096, .int .i64 128, .int .i64 1]) (.int .i64 2)).run Tryd.prog w = .ok (.int .i64 1) w := fun _ => by kernel_rfl
  refine callsIn_of_wp Tryd.func59 rfl trivial ?_ rfl
  simp only [Tryd.ntmps59, List.size_toArray, List.length_cons, List.length_nil, Nat.reduceAdd, Nat.reduceSub, Array.replicate_succ, Array.replicate_zero, List.push_toArray, List.append_toArray, List.nil_append, List.cons_append]
  gi_wp2
  refine wpIn_loop_rounds 4 ?_
  rw [roundsIn_succ]
  obtain ⟨f1, t1, a1, b1, hy1, hR1⟩ := hY [] (wrap64 (a.tdiv 4096), a.tmod 4096) W h0 (by simp)
  dsimp only [encs2] at hy1
  gi_wp2
  refine hR1.mono ?_
  rintro e W1 (⟨rfl, hJ1, _⟩ | ⟨rfl, hx1⟩)
  · clear hy1 hR1 hB' h0 hw0 hw1 hw2
    obtain ⟨f2, t2, a2, b2, hy2, hR2⟩ := hY _ (wrap64 ((a.tmod 4096).tdiv 128), a.tmod 128) W1 hJ1 (by simp)
    dsimp only [encs2] at hy2
    gi_wp2
    rw [roundsIn_succ]
    gi_wp2
    refine hR2.mono ?_
    rintro e W2 (⟨rfl, hJ2, _⟩ | ⟨rfl, hx2⟩)
    · clear hy2 hR2 hJ1
      obtain ⟨f3, t3, a3, b3, hy3, hR3⟩ := hY _ (wrap64 (a.tmod 128), 0) W2 hJ2 (by simp)
      dsimp only [encs2] at hy3
      gi_wp2
      rw [roundsIn_succ]
      gi_wp2
      refine hR3.mono ?_
      rintro e W3 (⟨rfl, hJ3, _⟩ | ⟨rfl, hx3⟩)
      · gi_wp2
        rw [roundsIn_succ]
        gi_wp2
        go_end0
        exact ⟨⟨_, rfl⟩, .inl ⟨_, rfl, hJ3⟩⟩
      · gi_wp2
        refine bodyPost_ret (results_none rfl _ _ _) rfl ?_
        exact ⟨⟨_, rfl⟩, .inr ⟨_, ⟨[], rfl⟩, hx3⟩⟩
    · gi_wp2
      refine bodyPost_ret (results_none rfl _ _ _) rfl ?_
      exact ⟨⟨_, rfl⟩, .inr ⟨_, ⟨[_], rfl⟩, hx2⟩⟩
  · gi_wp2
    refine bodyPost_ret (results_none rfl _ _ _) rfl ?_
    exact ⟨⟨_, rfl⟩, .inr ⟨_, ⟨[_, _], rfl⟩, hx1⟩⟩
/-- The cells of the place while its numbers come. -/
def cells3 (pre : List (Int × Int)) : Array Value := #[.int .i64 ((pre[0]?.map (·.1)).getD 0), .int .i64 ((pre[1]?.map (·.1)).getD 0), .int .i64 ((pre[2]?.map (·.1)).getD 0)]
def place3 (a : Int) : Array Value := #[.int .i64 (wrap64 (a.tdiv 4096)), .int .i64 (wrap64 ((a.tmod 4096).tdiv 128)), .int .i64 (wrap64 (a.tmod 128))]
theorem cells3_stop (a : Int) (pre : List (Int × Int)) (hSp : pre <+: nums a) (q : Int) (hq : pre.getLast? = some (q, 0)) : cells3 pre = place3 a := by
  obtain ⟨rest, hr⟩ := hSp
  rcases pre with _ | ⟨x0, _ | ⟨x1, _ | ⟨x2, rr⟩⟩⟩
  · simp at hq
  · simp only [nums, List.cons_append, List.nil_append, List.cons.injEq] at hr
    obtain ⟨rfl, _⟩ := hr
    simp at hq
    have h2 : a.tmod 128 = 0 := by rw [← Int.tmod_tmod_of_dvd a (by decide : (128 : Int) ∣ 4096), hq.2]; rfl
    simp [cells3, place3, hq.2, h2, wrap64]
  · simp only [nums, List.cons_append, List.nil_append, List.cons.injEq] at hr
    obtain ⟨rfl, rfl, _⟩ := hr
    simp at hq
    simp [cells3, place3, hq.2, wrap64]
  · simp only [nums, List.cons_append, List.cons.injEq] at hr
    obtain ⟨rfl, rfl, rfl, _⟩ := hr
    rfl
theorem numbers_any (a : Int) (w : World) : Calls Tryd.prog 58 #[.int .i64 a] w fun e w' => e = .returned (.func (.func 59) #[] #[.pointer (some ⟨w.heap.size, 0, none⟩)]) ∧
    w' = w.alloc (.cells #[.int .i64 a] 3) := by
  go_enter Tryd.func58, Tryd.ntmps58
  go_wp2
  go_ret
  exact ⟨rfl, rfl⟩
set_option maxRecDepth 100000 in
set_option maxHeartbeats 2000000 in
theorem find_any (a : Int) (w : World) (aA aS aR : Addr) (hV : AV w aA aS aR) :
    Calls Tryd.prog 52 #[.int .i64 a] w fun e w' => e = .returned (.agg (place3 a)) ∧ Below w.heap.size w w' := by
  refine (callsIn_wide (n := 9)).1 ?_
  refine callsIn_of_wp_marks Tryd.func52 rfl trivial ?_ rfl
  simp only [Tryd.ntmps52, List.size_toArray, List.length_cons, List.length_nil, Nat.reduceAdd, Nat.reduceSub, Array.replicate_succ, Array.replicate_zero, List.push_toArray, List.append_toArray, List.nil_append, List.cons_append]
  gi_wp2_with fail
  refine wpIn_scope_straight ?_
  gi_wp2_with fail
  refine wpIn_label ?_
  gi_wp2_with (refine ⟨trivial, ?_⟩; gi_at_call 58; refine (callsIn_wide.2 (numbers_any _ _)).mono ?_; rintro e w' ⟨rfl, rfl⟩)
  have b0 : Blk ((((w.alloc (.cells #[.int .i64 0, .int .i64 0, .int .i64 0] 93)).alloc (.cells #[.int .i64 0, .int .i64 0, .int .i64 0] 93)).alloc (.cells #[.int .i64 0] 3)).alloc (.cells #[.int .i64 a] 3)) w.heap.size #[.int .i64 0, .int .i64 0, .int .i64 0] 93 := (((Blk.new w _ _).alloc _).alloc _).alloc _
  have b1 : Blk ((((w.alloc (.cells #[.int .i64 0, .int .i64 0, .int .i64 0] 93)).alloc (.cells #[.int .i64 0, .int .i64 0, .int .i64 0] 93)).alloc (.cells #[.int .i64 0] 3)).alloc (.cells #[.int .i64 a] 3)) (w.heap.size + 1) #[.int .i64 0, .int .i64 0, .int .i64 0] 93 := by
    have h := ((Blk.new (w.alloc (.cells #[.int .i64 0, .int .i64 0, .int .i64 0] 93)) #[.int .i64 0, .int .i64 0, .int .i64 0] 93).alloc (.cells #[.int .i64 0] 3)).alloc (.cells #[.int .i64 a] 3)
    rw [World.size_alloc] at h; exact h
  have b2 : Blk ((((w.alloc (.cells #[.int .i64 0, .int .i64 0, .int .i64 0] 93)).alloc (.cells #[.int .i64 0, .int .i64 0, .int .i64 0] 93)).alloc (.cells #[.int .i64 0] 3)).alloc (.cells #[.int .i64 a] 3)) (w.heap.size + 1 + 1) #[.int .i64 0] 3 := by
    have h := (Blk.new ((w.alloc (.cells #[.int .i64 0, .int .i64 0, .int .i64 0] 93)).alloc (.cells #[.int .i64 0, .int .i64 0, .int .i64 0] 93)) #[.int .i64 0] 3).alloc (.cells #[.int .i64 a] 3)
    rw [World.size_alloc, World.size_alloc] at h; exact h
  have b3 : Blk ((((w.alloc (.cells #[.int .i64 0, .int .i64 0, .int .i64 0] 93)).alloc (.cells #[.int .i64 0, .int .i64 0, .int .i64 0] 93)).alloc (.cells #[.int .i64 0] 3)).alloc (.cells #[.int .i64 a] 3)) (w.heap.size + 1 + 1 + 1) #[.int .i64 a] 3 := by
    have h := Blk.new (((w.alloc (.cells #[.int .i64 0, .int .i64 0, .int .i64 0] 93)).alloc (.cells #[.int .i64 0, .int .i64 0, .int .i64 0] 93)).alloc (.cells #[.int .i64 0] 3)) #[.int .i64 a] 3
    rw [World.size_alloc, World.size_alloc, World.size_alloc] at h; exact h
  have hB0 : Below w.heap.size w ((((w.alloc (.cells #[.int .i64 0, .int .i64 0, .int .i64 0] 93)).alloc (.cells #[.int .i64 0, .int .i64 0, .int .i64 0] 93)).alloc (.cells #[.int .i64 0] 3)).alloc (.cells #[.int .i64 a] 3)) :=
    ((((Below.refl _ w).alloc (Nat.le_refl _) _).alloc (by simp) _).alloc (by simp; omega) _).alloc (by simp; omega) _
  have hV0 := hV.below hB0
  have hsz : ((((w.alloc (.cells #[.int .i64 0, .int .i64 0, .int .i64 0] 93)).alloc (.cells #[.int .i64 0, .int .i64 0, .int .i64 0] 93)).alloc (.cells #[.int .i64 0] 3)).alloc (.cells #[.int .i64 a] 3)).heap.size = w.heap.size + 4 := by simp
  generalize ((((w.alloc (.cells #[.int .i64 0, .int .i64 0, .int .i64 0] 93)).alloc (.cells #[.int .i64 0, .int .i64 0, .int .i64 0] 93)).alloc (.cells #[.int .i64 0] 3)).alloc (.cells #[.int .i64 a] 3)) = W0 at b0 b1 b2 b3 hB0 hV0 hsz ⊢
  have HSZ := Lib.hid hsz
  clear hsz hV
  refine wpIn_rangeFunc_ownG rfl (by omega) (gf := 59) (lb := #[.pointer (some ⟨w.heap.size + 1 + 1 + 1, 0, none⟩)]) rfl trivial (enters_of Tryd.func59 (by kernel_rfl) rfl)
    (seqStopsA_iff.1 (numbers1_stops _ (by omega) _ a _ aA aS aR hV0 (b3.cell rfl))) (fun h k => walksK_t h k) walksK_b (Below.refl _ _) (fun _ => rfl)
    (fun pre W => Blk W w.heap.size #[.int .i64 0, .int .i64 0, .int .i64 0] 93 ∧ Blk W (w.heap.size + 1) (cells3 pre) 93 ∧ Blk W (w.heap.size + 1 + 1) #[.int .i64 pre.length] 3 ∧ Below w.heap.size w W)
    (fun c pre W => (c = .exit 0 ∧ ∃ q, pre.getLast? = some (q, 0)) ∧ Blk W w.heap.size #[.int .i64 0, .int .i64 0, .int .i64 0] 93 ∧ Blk W (w.heap.size + 1) (cells3 pre) 93 ∧ Below w.heap.size w W)
    (((blk_own _ _ _).from _).and (((blk_own _ _ _).from _).and (((blk_own _ _ _).from _).and (ownFrom_below (Nat.le_refl _) (by have := HSZ.out; omega)))))
    (fun c => (ownFrom_pure _ _).and (((blk_own _ _ _).from _).and (((blk_own _ _ _).from _).and (ownFrom_below (Nat.le_refl _) (by have := HSZ.out; omega)))))
    ⟨b0, b1, b2, hB0⟩
    (fun x => { tmps := #[.int .i64 a, undef, .pointer (some ⟨w.heap.size, 0, none⟩), .pointer (some ⟨w.heap.size + 1, 0, none⟩), .pointer (some ⟨w.heap.size + 1 + 1, 0, none⟩), .int .i64 x.1, .int .i64 x.2, .int .i64 a,
      .func (.func 59) #[] #[.pointer (some ⟨w.heap.size + 1 + 1 + 1, 0, none⟩)], .int .i64 x.1, .int .i64 x.2, undef, undef, undef, undef, undef, undef, undef, undef], defers := [] }) ?assign ?body ?done ?stop
  case assign =>
    intro l x W K hK
    gi_wp2
    exact hK
  case body =>
    rintro l pre ⟨q, r⟩ W ⟨h0, h1, h2, hB⟩ hlen
    rcases pre with _ | ⟨x0, _ | ⟨x1, _ | ⟨x2, rr⟩⟩⟩
    · have c0 : W.cell? ⟨w.heap.size + 1 + 1, 0, none⟩ = some (.int .i64 0) := h2.cell rfl
      have f0 := h2.frozen 0
      have c1 : W.cell? ⟨w.heap.size + 1, 0, none⟩ = some (.int .i64 0) := h1.cell rfl
      have f1 := h1.frozen 0
      have keep : ∀ v v' : Value, KeepsOthers W ((W.setCell ⟨w.heap.size + 1, 0, none⟩ v).setCell ⟨w.heap.size + 1 + 1, 0, none⟩ v') := fun _ _ => (KeepsOthers.setCell _ _ _).trans (KeepsOthers.setCell _ _ _)
      have KP := Lib.hid keep
      clear keep
      by_cases hr : (r == 0) = true
      · gi_wp2
        exact ⟨(KP.out _ _).from _, ⟨rfl, q, by simp only [beq_iff_eq] at hr; subst hr; rfl⟩, (h0.other (by omega) _ _).other (by omega) _ _, (h1.set 0 _).other (by omega) _ _, (hB.setCell (p := ⟨w.heap.size + 1, 0, none⟩) (by simp) _).setCell (p := ⟨w.heap.size + 1 + 1, 0, none⟩) (by simp; omega) _⟩
      · have hr' : (r == 0) = false := by simpa using hr
        clear hr
        gi_wp2
        exact ⟨(KP.out _ _).from _, (KP.out _ _).walks, (h0.other (by omega) _ _).other (by omega) _ _, (h1.set 0 _).other (by omega) _ _, (h2.other (by omega) _ _).set 0 _, (hB.setCell (p := ⟨w.heap.size + 1, 0, none⟩) (by simp) _).setCell (p := ⟨w.heap.size + 1 + 1, 0, none⟩) (by simp; omega) _⟩
    · have c0 : W.cell? ⟨w.heap.size + 1 + 1, 0, none⟩ = some (.int .i64 1) := h2.cell rfl
      have f0 := h2.frozen 0
      have c1 : W.cell? ⟨w.heap.size + 1, 1, none⟩ = some (.int .i64 0) := h1.cell rfl
      have f1 := h1.frozen 1
      have keep : ∀ v v' : Value, KeepsOthers W ((W.setCell ⟨w.heap.size + 1, 1, none⟩ v).setCell ⟨w.heap.size + 1 + 1, 0, none⟩ v') := fun _ _ => (KeepsOthers.setCell _ _ _).trans (KeepsOthers.setCell _ _ _)
      have KP := Lib.hid keep
      clear keep
      by_cases hr : (r == 0) = true
      · gi_wp2
        exact ⟨(KP.out _ _).from _, ⟨rfl, q, by simp only [beq_iff_eq] at hr; subst hr; rfl⟩, (h0.other (by omega) _ _).other (by omega) _ _, (h1.set 1 _).other (by omega) _ _, (hB.setCell (p := ⟨w.heap.size + 1, 1, none⟩) (by simp) _).setCell (p := ⟨w.heap.size + 1 + 1, 0, none⟩) (by simp; omega) _⟩
      · have hr' : (r == 0) = false := by simpa using hr
        clear hr
        gi_wp2
        exact ⟨(KP.out _ _).from _, (KP.out _ _).walks, (h0.other (by omega) _ _).other (by omega) _ _, (h1.set 1 _).other (by omega) _ _, (h2.other (by omega) _ _).set 0 _, (hB.setCell (p := ⟨w.heap.size + 1, 1, none⟩) (by simp) _).setCell (p := ⟨w.heap.size + 1 + 1, 0, none⟩) (by simp; omega) _⟩
    · have c0 : W.cell? ⟨w.heap.size + 1 + 1, 0, none⟩ = some (.int .i64 2) := h2.cell rfl
      have f0 := h2.frozen 0
      have c1 : W.cell? ⟨w.heap.size + 1, 2, none⟩ = some (.int .i64 0) := h1.cell rfl
      have f1 := h1.frozen 2
      have keep : ∀ v v' : Value, KeepsOthers W ((W.setCell ⟨w.heap.size + 1, 2, none⟩ v).setCell ⟨w.heap.size + 1 + 1, 0, none⟩ v') := fun _ _ => (KeepsOthers.setCell _ _ _).trans (KeepsOthers.setCell _ _ _)
      have KP := Lib.hid keep
      clear keep
      by_cases hr : (r == 0) = true
      · gi_wp2
        exact ⟨(KP.out _ _).from _, ⟨rfl, q, by simp only [beq_iff_eq] at hr; subst hr; rfl⟩, (h0.other (by omega) _ _).other (by omega) _ _, (h1.set 2 _).other (by omega) _ _, (hB.setCell (p := ⟨w.heap.size + 1, 2, none⟩) (by simp) _).setCell (p := ⟨w.heap.size + 1 + 1, 0, none⟩) (by simp; omega) _⟩
      · have hr' : (r == 0) = false := by simpa using hr
        clear hr
        gi_wp2
        exact ⟨(KP.out _ _).from _, (KP.out _ _).walks, (h0.other (by omega) _ _).other (by omega) _ _, (h1.set 2 _).other (by omega) _ _, (h2.other (by omega) _ _).set 0 _, (hB.setCell (p := ⟨w.heap.size + 1, 2, none⟩) (by simp) _).setCell (p := ⟨w.heap.size + 1 + 1, 0, none⟩) (by simp; omega) _⟩
    · simp at hlen; omega
  case done =>
    rintro D xs W hD rfl ⟨h0, h1', h2, hB⟩ hK
    have h1 : Blk W (w.heap.size + 1) (place3 a) 93 := h1'
    clear h1' h2
    have c0 : W.cell? ⟨w.heap.size + 1, 0, none⟩ = some (.int .i64 (wrap64 (a.tdiv 4096))) := h1.cell rfl
    have c1 : W.cell? ⟨w.heap.size + 1, 1, none⟩ = some (.int .i64 (wrap64 ((a.tmod 4096).tdiv 128))) := h1.cell rfl
    have c2 : W.cell? ⟨w.heap.size + 1, 2, none⟩ = some (.int .i64 (wrap64 (a.tmod 128))) := h1.cell rfl
    have d0 : W.cell? ⟨w.heap.size, 0, none⟩ = some (.int .i64 0) := h0.cell rfl
    have d1 : W.cell? ⟨w.heap.size, 1, none⟩ = some (.int .i64 0) := h0.cell rfl
    have d2 : W.cell? ⟨w.heap.size, 2, none⟩ = some (.int .i64 0) := h0.cell rfl
    have f0 := h0.frozen 0
    have f1 := h0.frozen 1
    have f2 := h0.frozen 2
    gi_wp2
    rw [Exit.noGoto_ret]
    have hK' := (((KeepsOthers.setCell W ⟨w.heap.size, 0, none⟩ (.int .i64 (wrap64 (a.tdiv 4096)))).trans (KeepsOthers.setCell _ ⟨w.heap.size, 1, none⟩ (.int .i64 (wrap64 ((a.tmod 4096).tdiv 128))))).trans (KeepsOthers.setCell _ ⟨w.heap.size, 2, none⟩ (.int .i64 (wrap64 (a.tmod 128))))).same D _ hK rfl
    have bN := blk_putObj (.deferred none) (((h0.set 0 (.int .i64 (wrap64 (a.tdiv 4096)))).set 1 (.int .i64 (wrap64 ((a.tmod 4096).tdiv 128)))).set 2 (.int .i64 (wrap64 (a.tmod 128)))) hK' rfl
    have e0 := bN.cell (k := 0) rfl
    have e1 := bN.cell (k := 1) rfl
    have e2 := bN.cell (k := 2) rfl
    refine ⟨by simp, .inl ⟨_, _, rfl, run_takeDeferred hK', ?_⟩⟩
    refine ⟨.agg (place3 a), ?_, rfl, ?_⟩
    · simp [results, Tryd.f52, go_sem, e0, e1, e2, place3]
    · have hbb := ((hB.setCell (p := ⟨w.heap.size, 0, none⟩) (by simp) (.int .i64 (wrap64 (a.tdiv 4096)))).setCell (p := ⟨w.heap.size, 1, none⟩) (by simp) (.int .i64 (wrap64 ((a.tmod 4096).tdiv 128)))).setCell (p := ⟨w.heap.size, 2, none⟩) (by simp) (.int .i64 (wrap64 (a.tmod 128)))
      exact hbb.trans (belowK_b (w := W0) (by have := HSZ.out; omega) _ D _ _ hD hK' rfl rfl)
  case stop =>
    rintro D c pre W hD hSp ⟨⟨rfl, q, hq⟩, h0, h1', hB⟩ hK
    have h1 : Blk W (w.heap.size + 1) (place3 a) 93 := cells3_stop a pre hSp q hq ▸ h1'
    clear h1' hSp hq
    have c0 : W.cell? ⟨w.heap.size + 1, 0, none⟩ = some (.int .i64 (wrap64 (a.tdiv 4096))) := h1.cell rfl
    have c1 : W.cell? ⟨w.heap.size + 1, 1, none⟩ = some (.int .i64 (wrap64 ((a.tmod 4096).tdiv 128))) := h1.cell rfl
    have c2 : W.cell? ⟨w.heap.size + 1, 2, none⟩ = some (.int .i64 (wrap64 (a.tmod 128))) := h1.cell rfl
    have d0 : W.cell? ⟨w.heap.size, 0, none⟩ = some (.int .i64 0) := h0.cell rfl
    have d1 : W.cell? ⟨w.heap.size, 1, none⟩ = some (.int .i64 0) := h0.cell rfl
    have d2 : W.cell? ⟨w.heap.size, 2, none⟩ = some (.int .i64 0) := h0.cell rfl
    have f0 := h0.frozen 0
    have f1 := h0.frozen 1
    have f2 := h0.frozen 2
    gi_wp2
    rw [Exit.noGoto_ret]
    have hK' := (((KeepsOthers.setCell W ⟨w.heap.size, 0, none⟩ (.int .i64 (wrap64 (a.tdiv 4096)))).trans (KeepsOthers.setCell _ ⟨w.heap.size, 1, none⟩ (.int .i64 (wrap64 ((a.tmod 4096).tdiv 128))))).trans (KeepsOthers.setCell _ ⟨w.heap.size, 2, none⟩ (.int .i64 (wrap64 (a.tmod 128))))).same D _ hK rfl
    have bN := blk_putObj (.deferred none) (((h0.set 0 (.int .i64 (wrap64 (a.tdiv 4096)))).set 1 (.int .i64 (wrap64 ((a.tmod 4096).tdiv 128)))).set 2 (.int .i64 (wrap64 (a.tmod 128)))) hK' rfl
    have e0 := bN.cell (k := 0) rfl
    have e1 := bN.cell (k := 1) rfl
    have e2 := bN.cell (k := 2) rfl
    refine ⟨by simp, .inl ⟨_, _, rfl, run_takeDeferred hK', ?_⟩⟩
    refine ⟨.agg (place3 a), ?_, rfl, ?_⟩
    · simp [results, Tryd.f52, go_sem, e0, e1, e2, place3]
    · have hbb := ((hB.setCell (p := ⟨w.heap.size, 0, none⟩) (by simp) (.int .i64 (wrap64 (a.tdiv 4096)))).setCell (p := ⟨w.heap.size, 1, none⟩) (by simp) (.int .i64 (wrap64 ((a.tmod 4096).tdiv 128)))).setCell (p := ⟨w.heap.size, 2, none⟩) (by simp) (.int .i64 (wrap64 (a.tmod 128)))
      exact hbb.trans (belowK_b (w := W0) (by have := HSZ.out; omega) _ D _ _ hD hK' rfl rfl)
theorem place3_yes (a : Int) (h : 0 ≤ a) (h' : a < 131072) : place3 a = #[.int .i64 (a / 4096), .int .i64 (a % 4096 / 128), .int .i64 (a % 128)] := by
  have e1 : a.tdiv 4096 = a / 4096 := Int.tdiv_eq_ediv_of_nonneg h
  have e2 : a.tmod 4096 = a % 4096 := Int.tmod_eq_emod_of_nonneg h
  have e3 : a.tmod 128 = a % 128 := Int.tmod_eq_emod_of_nonneg h
  have e4 : (a % 4096).tdiv 128 = a % 4096 / 128 := Int.tdiv_eq_ediv_of_nonneg (by omega)
  rw [place3, e1, e2, e3, e4, IntWalk.wrap64_in _ ⟨by omega, by omega⟩, IntWalk.wrap64_in _ ⟨by omega, by omega⟩, IntWalk.wrap64_in _ ⟨by omega, by omega⟩]
theorem find_yes (a : Int) (w : World) (aA aS aR : Addr) (hV : AV w aA aS aR) (h : 0 ≤ a) (h' : a < 131072) :
    Calls Tryd.prog 52 #[.int .i64 a] w fun e w' => e = .returned (.agg #[.int .i64 (a / 4096), .int .i64 (a % 4096 / 128), .int .i64 (a % 128)]) ∧ Below w.heap.size w w' := by
  have := find_any a w aA aS aR hV; rwa [place3_yes a h h'] at this
end Go.Proofs.YtmikkbhillkpkaaDoor.Ad
