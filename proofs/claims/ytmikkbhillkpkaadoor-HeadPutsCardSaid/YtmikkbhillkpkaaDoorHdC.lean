/-
  head.Right.
-/
import Derived.Test.YtmikkbhillkpkaaDoorHdB
namespace Go.Proofs.YtmikkbhillkpkaaDoor
open Go.RowKit Go.Lib Go.Shelf
attribute [local go_sem] Oper.semAt_some
set_option linter.unusedSimpArgs false
set_option linter.unusedVariables false

/-- A loop's own blocks, and what lies below. -/
structure LF (w : World) (s : Nat) (r : Loop) (W : World) : Prop where
  dfr : W.heap[s]? = some (.deferred (some []))
  lop : W.heap[s + 1]? = some (.loop r)
  low : Below w.heap.size w W
  hs : w.heap.size ≤ s
theorem LF.below {w : World} {s : Nat} {r : Loop} {W W' : World} (h : LF w s r W) (hb : Below W.heap.size W W') : LF w s r W' :=
  ⟨(hb.block s (Array.getElem?_eq_some_iff.1 h.dfr).1).trans h.dfr, (hb.block (s + 1) (Array.getElem?_eq_some_iff.1 h.lop).1).trans h.lop, bstep h.low hb, h.hs⟩
theorem LF.al {w : World} {s : Nat} {r : Loop} {W : World} (h : LF w s r W) (o : Obj) : LF w s r (W.alloc o) := h.below ((Below.refl _ W).alloc (Nat.le_refl _) o)
theorem LF.dr {w : World} {s : Nat} {r : Loop} {W : World} (h : LF w s r W) : LF w s r W.drew := h.below (Below.refl _ W).drew
theorem LF.put {w : World} {s : Nat} {r : Loop} {W : World} (h : LF w s r W) (r' : Loop) : LF w s r' (W.putObj (s + 1) (.loop r')) := {
  dfr := (World.putObj_heap_other (by omega)).trans h.dfr
  lop := World.putObj_heap_same (Array.getElem?_eq_some_iff.1 h.lop).1
  low := h.low.grown (grownBy_putObj' W (s + 1) (.loop r')) h.low.size (fun j e => by cases e; exact Nat.le_succ_of_le h.hs)
  hs := h.hs }
theorem LF.set {w : World} {s : Nat} {r : Loop} {W : World} (h : LF w s r W) {B : Nat} {cs : Array Value} {t : TypeId} (hB : Blk W B cs t) (hw : w.heap.size ≤ B) (k : Nat) (v : Value) : LF w s r (W.setCell ⟨B, k, none⟩ v) := {
  dfr := (Below.heap_setCell _ _ _ _ (fun e => by have h1 := h.dfr; rw [e, show W.heap[B]? = _ from hB] at h1; cases h1)).trans h.dfr
  lop := (Below.heap_setCell _ _ _ _ (fun e => by have h1 := h.lop; rw [e, show W.heap[B]? = _ from hB] at h1; cases h1)).trans h.lop
  low := h.low.setCell (p := ⟨B, k, none⟩) hw v
  hs := h.hs }
theorem LF.first (w W1 : World) (hB : Below w.heap.size w W1) (r : Loop) : LF w W1.heap.size r ((W1.alloc (.deferred (some []))).alloc (.loop r)) := {
  dfr := (Below.heap_alloc _ _ _ (by simp)).trans (World.alloc_heap_new W1 _)
  lop := by
    have := World.alloc_heap_new (W1.alloc (.deferred (some []))) (.loop r)
    rwa [World.size_alloc] at this
  low := (hB.alloc hB.size _).alloc (by have := hB.size; simp; omega) _
  hs := hB.size }

/-- A head is right. -/
def rightB (m : Mk) : Bool := inFld 0 m.k && inFld 1 m.c && inFld 2 m.e && inFld 3 m.l
/-- The first numbers are in their fields. -/
def okTo (m : Mk) (k : Nat) : Prop := ∀ j, j < k → inFld j (num m j) = true
theorem okTo_all {m : Mk} (h : okTo m 4) : rightB m = true := by
  have h0 := h 0 (by omega)
  have h1 := h 1 (by omega)
  have h2 := h 2 (by omega)
  have h3 := h 3 (by omega)
  simp only [num] at h0 h1 h2 h3
  simp [rightB, h0, h1, h2, h3]
theorem okTo_not {m : Mk} {k : Nat} (hk : k < 4) (h : inFld k (num m k) = false) : rightB m = false := by
  unfold rightB
  match k, hk with
  | 0, _ => simp only [num] at h; simp [h]
  | 1, _ => simp only [num] at h; simp [h]
  | 2, _ => simp only [num] at h; simp [h]
  | 3, _ => simp only [num] at h; simp [h]
theorem okTo_snoc {m : Mk} {k : Nat} (h : okTo m k) (h1 : inFld k (num m k) = true) : okTo m (k + 1) := fun j hj => by
  by_cases e : j = k
  · subst e; exact h1
  · exact h j (by omega)
structure JR (m : Mk) (w : World) (s R : Nat) (r : Loop) (b : Bool) (W : World) : Prop where
  lf : LF w s r W
  box : Blk W R #[.bool b] 4
  hR : w.heap.size ≤ R

theorem JR.below {m : Mk} {w : World} {s R : Nat} {r : Loop} {b : Bool} {W W' : World} (h : JR m w s R r b W) (hb : Below W.heap.size W W') : JR m w s R r b W' := ⟨h.lf.below hb, h.box.below' hb, h.hR⟩
theorem JR.put {m : Mk} {w : World} {s R : Nat} {r : Loop} {b : Bool} {W : World} (h : JR m w s R r b W) (r' : Loop) : JR m w s R r' b (W.putObj (s + 1) (.loop r')) := ⟨h.lf.put r', blk_putObj _ h.box h.lf.lop rfl, h.hR⟩
theorem JR.set {m : Mk} {w : World} {s R : Nat} {r : Loop} {b : Bool} {W : World} (h : JR m w s R r b W) (c : Bool) : JR m w s R r c (W.setCell ⟨R, 0, none⟩ (.bool c)) := ⟨h.lf.set h.box h.hR 0 _, h.box.set 0 _, h.hR⟩
theorem fld_form (k : Nat) (hk : k < 4) : ∃ a d lo hi : Int, fld k = #[.int .i64 a, .int .i64 d, .int .i64 lo, .int .i64 hi] := by
  match k, hk with
  | 0, _ => exact ⟨_, _, _, _, rfl⟩
  | 1, _ => exact ⟨_, _, _, _, rfl⟩
  | 2, _ => exact ⟨_, _, _, _, rfl⟩
  | 3, _ => exact ⟨_, _, _, _, rfl⟩
set_option maxRecDepth 100000 in
set_option maxHeartbeats 2000000 in
theorem hright_any (m : Mk) (w : World) (V : HR) (hV : HV w V) : Calls Tryd.prog 15 #[.agg (mkA m)] w fun e w' => e = .returned (.bool (rightB m)) ∧ Below w.heap.size w w' := by
  refine (callsIn_wide (n := 9)).1 ?_
  refine callsIn_of_wp_marks Tryd.func15 rfl trivial ?_ rfl
  simp only [Tryd.ntmps15, List.size_toArray, List.length_cons, List.length_nil, Nat.reduceAdd, Nat.reduceSub, Array.replicate_succ, Array.replicate_zero, List.push_toArray, List.append_toArray, List.nil_append, List.cons_append]
  have HVV := Lib.hid hV
  clear hV
  refine wpIn_wide.2 ?_
  dsimp only [mkA]
  go_wp2_with fail
  go_step3
  go_wp2_with fail
  go_step3
  go_wp2_with fail
  ((with_reducible refine (hnumbers_any m _).mono ?_))
  rintro e w' ⟨rfl, rfl⟩
  go_wp2_with fail
  refine (wpIn_wide (n := 9)).1 ?_
  obtain ⟨b0, b1, b2, hB1, hsz⟩ := blk3 w (mkA m) #[.bool true] (mkA m) 23 4 61
  dsimp only [mkA] at b0 b1 b2 hB1 hsz ⊢
  generalize (((w.alloc (.cells #[.int .i64 m.k, .int .i64 m.l, .int .i64 m.c, .int .i64 m.e] 23)).alloc (.cells #[.bool true] 4)).alloc (.cells #[.int .i64 m.k, .int .i64 m.l, .int .i64 m.c, .int .i64 m.e] 61)) = W1 at b0 b1 b2 hB1 hsz ⊢
  refine range_direct (by omega) (gf := 48) (lb := #[.pointer (some ⟨w.heap.size + 1 + 1, 0, none⟩)]) rfl (enters_of Tryd.func48 (by kernel_rfl) rfl) ?_
  intro fn r hr
  obtain ⟨s, hs1⟩ : ∃ s, W1.heap.size = s := ⟨_, rfl⟩
  have jr0 : JR m w W1.heap.size (w.heap.size + 1) (r .ready none) true ((W1.alloc (.deferred (some []))).alloc (.loop (r .ready none))) := ⟨LF.first w W1 hB1 _, (b1.alloc _).alloc _, by omega⟩
  have bC0 := (b2.alloc (.deferred (some []))).alloc (.loop (r .ready none))
  have hV0 := (HVV.out.below hB1).below (((Below.refl _ W1).alloc (Nat.le_refl _) (.deferred (some []))).alloc (by simp) (.loop (r .ready none)))
  generalize (W1.alloc (.deferred (some []))).alloc (.loop (r .ready none)) = W0 at jr0 bC0 hV0 ⊢
  rw [hs1] at jr0 hsz ⊢
  have HR := Lib.hid hr
  have hss : w.heap.size + 1 + 1 < s := by omega
  clear b0 b1 b2 hB1 hr hs1 hsz
  refine (hnumbers1 8 (by omega) (w.heap.size + 1 + 1) (s + 1) m W0 bC0 hV0.fl (fun k W => JR m w s (w.heap.size + 1) (r .ready none) true W ∧ okTo m k) (fun W => JR m w s (w.heap.size + 1) (r .done (some (.exit 0))) false W ∧ rightB m = false)
    ⟨jr0, fun j hj => by omega⟩ (fun k W o h => ⟨⟨h.1.lf.al o, h.1.box.alloc o, h.1.hR⟩, h.2⟩) (fun k W h => ⟨⟨h.1.lf.dr, h.1.box.drew, h.1.hR⟩, h.2⟩) ?_).mono ?_
  · rintro k W hk ⟨jr, hok⟩
    clear jr0 bC0 hV0
    refine yield_direct HR.out jr.lf.lop rfl ?_
    have hWR := jr.box.lt
    have HH := holds_any k hk (num m k)
    have hSn := fun h => okTo_snoc hok (k := k) h
    have hNo := fun h => okTo_not (m := m) hk h
    obtain ⟨a, d, lo, hi, hf⟩ := fld_form k hk
    rw [hf] at HH ⊢
    generalize num m k = v at HH hSn hNo ⊢
    have HHH := Lib.hid HH
    have HSN := Lib.hid hSn
    have HNO := Lib.hid hNo
    have jA : JR m w s (w.heap.size + 1) (r .ready none) true (W.alloc (.cells #[.int .i64 a, .int .i64 d, .int .i64 lo, .int .i64 hi] 70)) := ⟨jr.lf.al _, jr.box.alloc _, jr.hR⟩
    have hlop := jA.lf.lop
    have jB : JR m w s (w.heap.size + 1) (r .busy none) true ((W.alloc (.cells #[.int .i64 a, .int .i64 d, .int .i64 lo, .int .i64 hi] 70)).putObj (s + 1) (.loop (r .busy none))) := ⟨jA.lf.put _, blk_putObj _ jA.box hlop rfl, jA.hR⟩
    have bF := blk_putObj (.loop (r .busy none)) (Blk.new W #[.int .i64 a, .int .i64 d, .int .i64 lo, .int .i64 hi] 70) hlop rfl
    have kp1 : Kp 88 W ((W.alloc (.cells #[.int .i64 a, .int .i64 d, .int .i64 lo, .int .i64 hi] 70)).putObj (s + 1) (.loop (r .busy none))) := (Kp.below ((Below.refl _ W).alloc (Nat.le_refl _) _)).trans (Kp.putObj _ hlop rfl)
    have HLop := Lib.hid hlop
    have HJB := Lib.hid jB
    have HBF := Lib.hid bF
    have HKP := Lib.hid kp1
    clear HH hSn hNo jA hlop jB bF kp1 jr hok hf
    gi_wp2
    refine ⟨HLop.out, ?_⟩
    obtain ⟨Wb, hWb⟩ : ∃ Wb, (W.alloc (.cells #[.int .i64 a, .int .i64 d, .int .i64 lo, .int .i64 hi] 70)).putObj (s + 1) (.loop (r .busy none)) = Wb := ⟨_, rfl⟩
    rw [hWb] at HJB HBF HKP ⊢
    clear hWb HLop
    have f0 : Wb.cell? ⟨W.heap.size, 0, none⟩ = some (.int .i64 a) := HBF.out.cell rfl
    have f1 : Wb.cell? ⟨W.heap.size, 1, none⟩ = some (.int .i64 d) := HBF.out.cell rfl
    have f2 : Wb.cell? ⟨W.heap.size, 2, none⟩ = some (.int .i64 lo) := HBF.out.cell rfl
    have f3 : Wb.cell? ⟨W.heap.size, 3, none⟩ = some (.int .i64 hi) := HBF.out.cell rfl
    cases hin : inFld k v with
    | true =>
      simp only [hin] at HHH
      have HIN := Lib.hid hin
      clear hin
      gi_wp2_with (refine ⟨trivial, ?_⟩; gi_at_call 35; ((with_reducible refine (CallsIn.inRound (s + 1) (callsIn_wide.2 (HHH.out _))).mono ?_)); rintro e u ⟨rfl, hb⟩; have HBu := Lib.hid hb; clear hb f0 f1 f2 f3)
      have jU := HJB.out.below HBu.out
      exact ⟨jU.lf.lop, true, rfl, ⟨jU.put _, HSN.out HIN.out⟩, HKP.out.trans ((Kp.below HBu.out).trans (Kp.putObj _ jU.lf.lop rfl))⟩
    | false =>
      simp only [hin] at HHH
      have HIN := Lib.hid hin
      clear hin
      gi_wp2_with (refine ⟨trivial, ?_⟩; gi_at_call 35; ((with_reducible refine (CallsIn.inRound (s + 1) (callsIn_wide.2 (HHH.out _))).mono ?_)); rintro e u ⟨rfl, hb⟩; have HBu := Lib.hid hb; have bU := (HJB.out.below hb).box; have R0 : u.cell? ⟨w.heap.size + 1, 0, none⟩ = some (.bool true) := bU.cell rfl; have R1 := bU.frozen 0; clear hb bU f0 f1 f2 f3)
      have jU := HJB.out.below HBu.out
      exact ⟨(jU.set false).lf.lop, false, rfl, (jU.set false).put _, HNO.out HIN.out⟩
  · rintro e W ⟨hv, ⟨jr, hok⟩ | ⟨jr, hno⟩⟩
    · refine ⟨hv, .ready, none, by decide, jr.lf.lop, fun rr => ?_⟩
      have jP := jr.put rr
      have R0 : (W.putObj (s + 1) (.loop rr)).cell? ⟨w.heap.size + 1, 0, none⟩ = some (.bool true) := jP.box.cell rfl
      have HJP := Lib.hid jP
      have HRB := Lib.hid (okTo_all hok)
      clear jr0 bC0 hV0 jr hok jP
      generalize W.putObj (s + 1) (.loop rr) = W5 at R0 HJP ⊢
      gi_wp2
      go_wp2
      try rw [Exit.noGoto_ret]
      refine ⟨by simp, .inl ⟨_, _, rfl, run_takeDeferred HJP.out.lf.dfr, ?_⟩⟩
      exact ⟨_, results_tmp rfl _ _ _, by rw [HRB.out]; rfl, HJP.out.lf.low.trans (belowK_b (w := w) (Nat.le_refl _) _ s _ _ HJP.out.lf.hs HJP.out.lf.dfr rfl rfl)⟩
    · refine ⟨hv, .done, some (.exit 0), by decide, jr.lf.lop, fun rr => ?_⟩
      have jP := jr.put rr
      have R0 : (W.putObj (s + 1) (.loop rr)).cell? ⟨w.heap.size + 1, 0, none⟩ = some (.bool false) := jP.box.cell rfl
      have HJP := Lib.hid jP
      have HRB := Lib.hid hno
      clear jr0 bC0 hV0 jr hno jP
      generalize W.putObj (s + 1) (.loop rr) = W5 at R0 HJP ⊢
      gi_wp2
      go_wp2
      try rw [Exit.noGoto_ret]
      refine ⟨by simp, .inl ⟨_, _, rfl, run_takeDeferred HJP.out.lf.dfr, ?_⟩⟩
      exact ⟨_, results_tmp rfl _ _ _, by rw [HRB.out]; rfl, HJP.out.lf.low.trans (belowK_b (w := w) (Nat.le_refl _) _ s _ _ HJP.out.lf.hs HJP.out.lf.dfr rfl rfl)⟩
end Go.Proofs.YtmikkbhillkpkaaDoor
