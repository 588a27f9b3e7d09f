/-
  The way of medium extents: each line from one to another one is marked; nothing else that lay in memory changes.
-/
import Derived.Test.YtgjhdjfjfmbejaaDoorMarkB
import Derived.Test.YtgjhdjfjfmbejaaDoorGenC
namespace Go.Proofs.YtgjhdjfjfmbejaaDoor
open Go.RowKit Go.Lib Go.Shelf
attribute [local go_sem] Oper.semAt_some

/-- The lines of a list are marked. -/
def medZ (z : Nat → Int) (pre : List (Fin 32)) (i : Nat) : Int := if memB pre i = true then max (z i) 1 else z i

theorem medZ_snoc (z : Nat → Int) (pre : List (Fin 32)) (x : Fin 32) (i : Nat) : (if i = x.val then max (medZ z pre x.val) 1 else medZ z pre i) = medZ z (pre ++ [x]) i := by
  have h := congrFun (memB_snoc pre x) i
  simp only [medZ]
  rw [← h]
  by_cases e : i = x.val
  · subst e
    simp only [if_true]
    split <;> omega
  · simp only [if_neg e]
theorem only_from {β : Type} (g B : Nat) (w : World) (hB : w.heap.size ≤ B) : OwnFrom B (fun (_ : β) W => Only g w W) := fun _ _ _ _ hs hg hr =>
  ⟨hg.os.trans hs.os, hg.tape.trans hs.tape, hg.output.trans hs.output, Nat.le_trans hs.size hg.size, fun k hk hne => (hg.block k (by have := hs.size; omega) (fun e => by have := (hr k e.symm).1; omega)).trans (hs.block k hk hne)⟩
theorem only_put {g D : Nat} {w W : World} (o : Obj) (h : Only g w W) (hD : w.heap.size ≤ D) : Only g w (W.putObj D o) :=
  ⟨h.os, h.tape, h.output, by have := h.size; simpa [World.putObj] using this, fun k hk hne => (World.putObj_heap_other (by omega)).trans (h.block k hk hne)⟩
theorem only_set {g : Nat} {w W : World} (h : Only g w W) (k : Nat) (v : Value) : Only g w (W.setCell ⟨g, k, none⟩ v) :=
  ⟨h.os, h.tape, h.output, by have := h.size; simpa [World.setCell] using this, fun j hj hne => (Below.heap_setCell W ⟨g, k, none⟩ v j (fun e => hne (by rw [e]))).trans (h.block j hj hne)⟩
theorem only_drew {g : Nat} {w W : World} (h : Only g w W) : Only g w W.drew := ⟨h.os, h.tape, h.output, h.size, h.block⟩
theorem only_of_below {g : Nat} {w W : World} (h : Below w.heap.size w W) : Only g w W := ⟨h.os, h.tape, h.output, h.size, fun k hk _ => h.block k hk⟩
theorem only_trans {g : Nat} {a b c : World} (h : Only g a b) (k : Only g b c) : Only g a c :=
  ⟨k.os.trans h.os, k.tape.trans h.tape, k.output.trans h.output, Nat.le_trans h.size k.size, fun j hj hne => (k.block j (by have := h.size; omega) hne).trans (h.block j hj hne)⟩
theorem Only.blk {g : Nat} {w W : World} (h : Only g w W) {B : Nat} {cs : Array Value} {t : TypeId} (b : Blk w B cs t) (hne : B ≠ g) : Blk W B cs t := (h.block B b.lt (fun e => hne (by injection e))).trans b

theorem med_end {w W : World} {M g : Nat} {z : Nat → Int} {pre : List (Fin 32)} {x : Fin 32} {y v : Int} {a : Act} (W0 : World) (hx : x.val < 32) (k1 : Blk W M #[.slice (some ⟨g, 0, none⟩) 32 32] 50) (k2 : Blk W g (tcells (medZ z pre)) 3) (k3 : Only g w W)
    (hne : g ≠ M) (hg : g < w.heap.size) (hs : tcells (fun i => if i = x.val then max y 1 else medZ z pre i) = tcells (medZ z (pre ++ [x]))) (hv : max y 1 = v) :
    ownPostG W0.heap.size (KS [w.heap.size + 1]) (fun pre W => Blk W M #[.slice (some ⟨g, 0, none⟩) 32 32] 50 ∧ Blk W g (tcells (medZ z pre)) 3 ∧ Only g w W) (fun _ _ _ => False) (pre ++ [x]) W .normal a (W.setCell ⟨g, x.val, none⟩ (.int .i64 v)).drew := by
  have hk : KS [w.heap.size + 1] W (W.setCell ⟨g, x.val, none⟩ (.int .i64 v)) := KS.setCell W g x.val _ (fun i hi => by simp at hi; omega)
  refine ⟨((KeepsOthers.setCell _ _ _).trans (KeepsOthers.drew _)).from _, ⟨hk.1, hk.2⟩, (k1.other (Ne.symm hne) _ _).drew, ?_, only_drew (only_set k3 _ _)⟩
  have h1 := k2.set x.val (.int .i64 v)
  subst hv
  rw [tcells_set _ _ _ hx, hs] at h1
  exact h1.drew

set_option maxRecDepth 100000 in
set_option maxHeartbeats 1000000 in
theorem ways2_any (M g : Nat) (z : Nat → Int) (f l : Nat) (w : World) (hM : Blk w M #[.slice (some ⟨g, 0, none⟩) 32 32] 50) (hG : Blk w g (tcells z) 3) (hne : M ≠ g) (hf : f ≤ l) (hl : l < 32) :
    Calls Tryd.prog 62 #[.int .i64 (f : Int), .int .i64 (l : Int), .pointer (some ⟨M, 0, none⟩)] w fun e w' => e = .returned (.tuple #[]) ∧ Blk w' g (tcells (medZ z (seg f (l + 1 - f)))) 3 ∧ Only g w w' := by
  refine (callsIn_wide (n := 9)).1 ?_
  refine callsIn_of_wp_marks Tryd.func62 rfl trivial ?_ rfl
  simp only [Tryd.ntmps62, List.size_toArray, List.length_cons, List.length_nil, Nat.reduceAdd, Nat.reduceSub, Array.replicate_succ, Array.replicate_zero, List.push_toArray, List.append_toArray, List.nil_append, List.cons_append]
  gi_wp2_with (refine ⟨trivial, ?_⟩; gi_at_call 34; ((with_reducible refine (callsIn_wide.2 (lines_any _ _ _)).mono ?_)); rintro e w' ⟨rfl, rfl⟩)
  obtain ⟨b2, b3, hB0, hsz⟩ := blk2 w #[.int .i64 (f : Int)] #[.int .i64 (l : Int)] 3 3
  have gM := hM.below' hB0
  have gG := hG.below' hB0
  have hMl := hM.lt
  have hGl := hG.lt
  have hO := only_of_below (g := g) hB0
  generalize ((w.alloc (.cells #[.int .i64 (f : Int)] 3)).alloc (.cells #[.int .i64 (l : Int)] 3)) = W0 at b2 b3 hB0 hsz gM gG hO ⊢
  have HSZ := Lib.hid hsz
  clear hsz hM hG hB0
  have g0 : Blk W0 g (tcells (medZ z [])) 3 := gG
  refine wpIn_rangeFunc_ownG rfl (by omega) (gf := 54) (lb := #[.pointer (some ⟨w.heap.size, 0, none⟩), .pointer (some ⟨w.heap.size + 1, 0, none⟩)]) rfl trivial (enters_of Tryd.func54 (by kernel_rfl) rfl)
    (lines1_stops _ (by omega) _ _ f (l + 1) l (by omega) (by omega) (by omega) (by omega) _ (b2.cell rfl) (b3.cell rfl)) (fun h k => h.trans k) (KS.putObj (fun i hi => by simp at hi; have := HSZ.out; omega)) (Below.refl _ _) (fun _ => rfl)
    (fun pre W => Blk W M #[.slice (some ⟨g, 0, none⟩) 32 32] 50 ∧ Blk W g (tcells (medZ z pre)) 3 ∧ Only g w W)
    (fun _ _ _ => False)
    (((blk_own _ _ _).from _).and (((blk_own _ _ _).from _).and (only_from _ _ _ (by have := HSZ.out; omega))))
    (fun c _ _ _ _ hs _ _ => hs)
    ⟨gM, g0, hO⟩
    (fun x => { tmps := #[.int .i64 (f : Int), .int .i64 (l : Int), .pointer (some ⟨M, 0, none⟩), undef, undef, .int .i64 ((x.val : Nat) : Int), .int .i64 (f : Int), .int .i64 (l : Int), .func (.func 54) #[] #[.pointer (some ⟨w.heap.size, 0, none⟩), .pointer (some ⟨w.heap.size + 1, 0, none⟩)], .int .i64 ((x.val : Nat) : Int), undef, undef, undef, undef, undef, undef, undef, undef, undef, undef], defers := [] }) ?assign ?body ?done ?stop
  case assign =>
    intro l x W K hK
    gi_wp2
    exact hK
  case body =>
    rintro lp pre x W ⟨k1, k2, k3⟩ hlen
    have cM : W.cell? ⟨M, 0, none⟩ = some (.slice (some ⟨g, 0, none⟩) 32 32) := k1.cell rfl
    have hx : x.val < 32 := x.isLt
    have cx := k2.cell (tcells_get (medZ z pre) x.val hx)
    have fx := k2.frozen x.val
    have i0 : (0 : Int) ≤ ((x.val : Nat) : Int) := by omega
    have i1 : ((x.val : Nat) : Int) < 32 := by omega
    have hd : 1 ≤ 9 - 1 - 1 := by omega
    have hmx : Tryd.prog.follows .mixedOrders = true := by kernel_rfl
    have HS := Lib.hid (tcells_congr (fun i (_ : i < 32) => medZ_snoc z pre x i))
    generalize medZ z pre x.val = y at cx HS
    have K1 := Lib.hid k1
    have K2 := Lib.hid k2
    have K3 := Lib.hid k3
    have hne' : g ≠ M := Ne.symm hne
    clear k1 k2 k3 gM gG hO g0 b2 b3 hlen hMl hf hl hne
    gi_wp2
    refine wpIn_region_any hmx ?_
    refine anyIn_round rfl (by rfl) _ _ _ _ ?_
    change wpAnyIn _ _ _ _ _ _ _ _ _ (World.drew _)
    refine wpAnyIn_take (i := 0) (v := .pointer (some ⟨M, 0, none⟩)) rfl rfl (by kernel_rfl) (by kernel_rfl) (by kernel_rfl) (fun _ _ _ h => h) ⟨Or.inl ⟨by rfl, ?_⟩, fun _ => rfl⟩ ?_
    · intro w; go_simp
    refine wpAnyIn_take (i := 2) (v := .int .i64 ((x.val : Nat) : Int)) rfl rfl (by kernel_rfl) (by kernel_rfl) (by kernel_rfl) (fun _ _ _ h => h) ⟨Or.inl ⟨by rfl, ?_⟩, fun _ => rfl⟩ ?_
    · intro w; go_simp
    refine wpAnyIn_take (i := 3) (v := .pointer (some ⟨M, 0, none⟩)) rfl rfl (by kernel_rfl) (by kernel_rfl) (by kernel_rfl) (fun _ _ _ h => h) ⟨Or.inl ⟨by rfl, ?_⟩, fun _ => rfl⟩ ?_
    · intro w; go_simp
    refine wpAnyIn_take (i := 5) (v := .int .i64 ((x.val : Nat) : Int)) rfl rfl (by kernel_rfl) (by kernel_rfl) (by kernel_rfl) (fun _ _ _ h => h) ⟨Or.inl ⟨by rfl, ?_⟩, fun _ => rfl⟩ ?_
    · intro w; go_simp
    refine wpAnyIn_ready (rs := [1, 4]) (by kernel_rfl) (by simp) ?_
    refine AllReadyIn.cons rfl (fun K hK => ?_) (AllReadyIn.cons rfl (fun K hK => ?_) AllReadyIn.nil)
    · go_simp
      refine hK _ _ ?_
      clear hK K
      refine wpAnyIn_ready (rs := [4]) (by kernel_rfl) (by simp) ?_
      refine AllReadyIn.cons rfl (fun K hK => ?_) AllReadyIn.nil
      go_simp
      refine hK _ _ ?_
      clear hK K
      refine wpAnyIn_take (i := 6) (v := .pointer (some ⟨g, x.val, none⟩)) rfl rfl (by kernel_rfl) (by kernel_rfl) (by kernel_rfl) (fun _ _ _ h => h) ⟨Or.inl ⟨by rfl, ?_⟩, fun _ => rfl⟩ ?_
      · intro w; go_simp
      refine wpAnyIn_ready (rs := [7]) (by kernel_rfl) (by simp) ?_
      refine AllReadyIn.cons rfl (fun K hK => ?_) AllReadyIn.nil
      go_simp
      refine hK _ _ ?_
      clear hK K
      refine wpAnyIn_ready (rs := [8]) (by kernel_rfl) (by simp) ?_
      refine AllReadyIn.cons rfl (fun K hK => ?_) AllReadyIn.nil
      go_simp
      refine hK _ _ ?_
      clear hK K
      refine wpAnyIn_take (i := 9) (v := .pointer (some ⟨g, x.val, none⟩)) rfl rfl (by kernel_rfl) (by kernel_rfl) (by kernel_rfl) (fun _ _ _ h => h) ⟨Or.inl ⟨by rfl, ?_⟩, fun _ => rfl⟩ ?_
      · intro w; go_simp
      refine wpAnyIn_ready (rs := [10]) (by kernel_rfl) (by simp) ?_
      refine AllReadyIn.cons rfl (fun K hK => ?_) AllReadyIn.nil
      go_simp
      refine hK _ _ ?_
      clear hK K
      refine wpAnyIn_done (by kernel_rfl) ?_ _
      gi_wp2
      all_goals (first | exact med_end (v := 1) W0 hx K1.out K2.out K3.out hne' hGl HS.out (by omega) | exact med_end (v := y) W0 hx K1.out K2.out K3.out hne' hGl HS.out (by omega))
    · go_simp
      refine hK _ _ ?_
      clear hK K
      refine wpAnyIn_take (i := 6) (v := .pointer (some ⟨g, x.val, none⟩)) rfl rfl (by kernel_rfl) (by kernel_rfl) (by kernel_rfl) (fun _ _ _ h => h) ⟨Or.inl ⟨by rfl, ?_⟩, fun _ => rfl⟩ ?_
      · intro w; go_simp
      refine wpAnyIn_ready (rs := [1, 7]) (by kernel_rfl) (by simp) ?_
      refine AllReadyIn.cons rfl (fun K hK => ?_) (AllReadyIn.cons rfl (fun K hK => ?_) AllReadyIn.nil)
      · go_simp
        refine hK _ _ ?_
        clear hK K
        refine wpAnyIn_ready (rs := [7]) (by kernel_rfl) (by simp) ?_
        refine AllReadyIn.cons rfl (fun K hK => ?_) AllReadyIn.nil
        go_simp
        refine hK _ _ ?_
        clear hK K
        refine wpAnyIn_ready (rs := [8]) (by kernel_rfl) (by simp) ?_
        refine AllReadyIn.cons rfl (fun K hK => ?_) AllReadyIn.nil
        go_simp
        refine hK _ _ ?_
        clear hK K
        refine wpAnyIn_take (i := 9) (v := .pointer (some ⟨g, x.val, none⟩)) rfl rfl (by kernel_rfl) (by kernel_rfl) (by kernel_rfl) (fun _ _ _ h => h) ⟨Or.inl ⟨by rfl, ?_⟩, fun _ => rfl⟩ ?_
        · intro w; go_simp
        refine wpAnyIn_ready (rs := [10]) (by kernel_rfl) (by simp) ?_
        refine AllReadyIn.cons rfl (fun K hK => ?_) AllReadyIn.nil
        go_simp
        refine hK _ _ ?_
        clear hK K
        refine wpAnyIn_done (by kernel_rfl) ?_ _
        gi_wp2
        all_goals (first | exact med_end (v := 1) W0 hx K1.out K2.out K3.out hne' hGl HS.out (by omega) | exact med_end (v := y) W0 hx K1.out K2.out K3.out hne' hGl HS.out (by omega))
      · go_simp
        refine hK _ _ ?_
        clear hK K
        refine wpAnyIn_ready (rs := [1, 8]) (by kernel_rfl) (by simp) ?_
        refine AllReadyIn.cons rfl (fun K hK => ?_) (AllReadyIn.cons rfl (fun K hK => ?_) AllReadyIn.nil)
        · go_simp
          refine hK _ _ ?_
          clear hK K
          refine wpAnyIn_ready (rs := [8]) (by kernel_rfl) (by simp) ?_
          refine AllReadyIn.cons rfl (fun K hK => ?_) AllReadyIn.nil
          go_simp
          refine hK _ _ ?_
          clear hK K
          refine wpAnyIn_take (i := 9) (v := .pointer (some ⟨g, x.val, none⟩)) rfl rfl (by kernel_rfl) (by kernel_rfl) (by kernel_rfl) (fun _ _ _ h => h) ⟨Or.inl ⟨by rfl, ?_⟩, fun _ => rfl⟩ ?_
          · intro w; go_simp
          refine wpAnyIn_ready (rs := [10]) (by kernel_rfl) (by simp) ?_
          refine AllReadyIn.cons rfl (fun K hK => ?_) AllReadyIn.nil
          go_simp
          refine hK _ _ ?_
          clear hK K
          refine wpAnyIn_done (by kernel_rfl) ?_ _
          gi_wp2
          all_goals (first | exact med_end (v := 1) W0 hx K1.out K2.out K3.out hne' hGl HS.out (by omega) | exact med_end (v := y) W0 hx K1.out K2.out K3.out hne' hGl HS.out (by omega))
        · go_simp
          refine hK _ _ ?_
          clear hK K
          refine wpAnyIn_ready (rs := [1]) (by kernel_rfl) (by simp) ?_
          refine AllReadyIn.cons rfl (fun K hK => ?_) AllReadyIn.nil
          go_simp
          refine hK _ _ ?_
          clear hK K
          refine wpAnyIn_take (i := 9) (v := .pointer (some ⟨g, x.val, none⟩)) rfl rfl (by kernel_rfl) (by kernel_rfl) (by kernel_rfl) (fun _ _ _ h => h) ⟨Or.inl ⟨by rfl, ?_⟩, fun _ => rfl⟩ ?_
          · intro w; go_simp
          refine wpAnyIn_ready (rs := [10]) (by kernel_rfl) (by simp) ?_
          refine AllReadyIn.cons rfl (fun K hK => ?_) AllReadyIn.nil
          go_simp
          refine hK _ _ ?_
          clear hK K
          refine wpAnyIn_done (by kernel_rfl) ?_ _
          gi_wp2
          all_goals (first | exact med_end (v := 1) W0 hx K1.out K2.out K3.out hne' hGl HS.out (by omega) | exact med_end (v := y) W0 hx K1.out K2.out K3.out hne' hGl HS.out (by omega))
  case done =>
    rintro D xs W hD rfl ⟨k1, k2, k3⟩ hK
    gi_wp2
    refine ⟨by simp, .inl ⟨_, _, rfl, run_takeDeferred hK, ?_⟩⟩
    exact ⟨_, results_none rfl _ _ _, rfl, blk_putObj _ k2 hK rfl, only_put _ k3 (by have := HSZ.out; omega)⟩
  case stop =>
    rintro D c pre W _ _ h _
    exact h.elim
end Go.Proofs.YtgjhdjfjfmbejaaDoor
