/-
  head.decode: of eight bytes whose numbers are right.
-/
import Derived.Test.YtmikkbhillkpkaaDoorHdJ
namespace Go.Proofs.YtmikkbhillkpkaaDoor
open Go.RowKit Go.Lib Go.Shelf
attribute [local go_sem] Oper.semAt_some
set_option linter.unusedSimpArgs false
set_option linter.unusedVariables false

/-- What decode's loop keeps. -/
structure JD (w : World) (s S R M X n : Nat) (r : Loop) (txt : ByteArray) (ma : Array Value) (xv : Value) (W : World) : Prop where
  lf : LF w s r W
  bS : Blk W S #[.string txt] 9
  bR : Blk W R mk0 23
  bM : Blk W M ma 23
  bX : Blk W X #[xv] 57
  lt : S < n ∧ R < n ∧ M < n ∧ X < n
  ge : w.heap.size ≤ R ∧ w.heap.size ≤ M ∧ w.heap.size ≤ X
  ne : R ≠ M
  hs : s + 1 < n
  hn : w.heap.size ≤ n
theorem JD.belowN {w : World} {s S R M X n : Nat} {r : Loop} {txt : ByteArray} {ma : Array Value} {xv : Value} {W W' : World} (h : JD w s S R M X n r txt ma xv W) (hb : Below n W W') : JD w s S R M X n r txt ma xv W' :=
  ⟨h.lf.belowN hb h.hn h.hs, h.bS.below hb h.lt.1, h.bR.below hb h.lt.2.1, h.bM.below hb h.lt.2.2.1, h.bX.below hb h.lt.2.2.2, h.lt, h.ge, h.ne, h.hs, h.hn⟩
theorem JD.put {w : World} {s S R M X n : Nat} {r : Loop} {txt : ByteArray} {ma : Array Value} {xv : Value} {W : World} (h : JD w s S R M X n r txt ma xv W) (r' : Loop) : JD w s S R M X n r' txt ma xv (W.putObj (s + 1) (.loop r')) :=
  ⟨h.lf.put r', blk_putObj _ h.bS h.lf.lop rfl, blk_putObj _ h.bR h.lf.lop rfl, blk_putObj _ h.bM h.lf.lop rfl, blk_putObj _ h.bX h.lf.lop rfl, h.lt, h.ge, h.ne, h.hs, h.hn⟩
theorem blk_ne {W : World} {a b : Nat} {ca cb : Array Value} {ta tb : TypeId} (ha : Blk W a ca ta) (hb : Blk W b cb tb) (hne : ta ≠ tb) : a ≠ b := by
  rintro rfl
  have h1 : W.heap[a]? = some (.cells cb tb (0, 0)) := hb
  rw [show W.heap[a]? = some (.cells ca ta (0, 0)) from ha] at h1
  simp at h1
  exact hne h1.2
theorem JD.setM {w : World} {s S R M X n : Nat} {r : Loop} {txt : ByteArray} {ma : Array Value} {xv : Value} {W : World} (h : JD w s S R M X n r txt ma xv W) (i : Nat) (v : Value) : JD w s S R M X n r txt (ma.setIfInBounds i v) xv (W.setCell ⟨M, i, none⟩ v) :=
  ⟨h.lf.set h.bM h.ge.2.1 i v, h.bS.other (blk_ne h.bS h.bM (by decide)) _ _, h.bR.other h.ne _ _, h.bM.set i v, h.bX.other (blk_ne h.bX h.bM (by decide)) _ _, h.lt, h.ge, h.ne, h.hs, h.hn⟩
theorem JD.setX {w : World} {s S R M X n : Nat} {r : Loop} {txt : ByteArray} {ma : Array Value} {xv : Value} {W : World} (h : JD w s S R M X n r txt ma xv W) (v : Value) : JD w s S R M X n r txt ma v (W.setCell ⟨X, 0, none⟩ v) :=
  ⟨h.lf.set h.bX h.ge.2.2 0 v, h.bS.other (blk_ne h.bS h.bX (by decide)) _ _, h.bR.other (blk_ne h.bR h.bX (by decide)) _ _, h.bM.other (blk_ne h.bM h.bX (by decide)) _ _, h.bX.set 0 v, h.lt, h.ge, h.ne, h.hs, h.hn⟩
theorem JD.dr {w : World} {s S R M X n : Nat} {r : Loop} {txt : ByteArray} {ma : Array Value} {xv : Value} {W : World} (h : JD w s S R M X n r txt ma xv W) : JD w s S R M X n r txt ma xv W.drew :=
  ⟨h.lf.dr, h.bS.drew, h.bR.drew, h.bM.drew, h.bX.drew, h.lt, h.ge, h.ne, h.hs, h.hn⟩
theorem ba_get (s : ByteArray) (j : Nat) (h : j < s.size) : s.data.toList[j]? = some s[j] := by
  rw [Array.getElem?_toList, Array.getElem?_eq_getElem h]
  rfl
theorem kb_sets {n M X : Nat} {W : World} {v : Value} (hM : M < n) (hX : X < n) : Kb n W (((((W.setCell ⟨M, 0, none⟩ (.int .i64 0)).setCell ⟨M, 1, none⟩ (.int .i64 0)).setCell ⟨M, 2, none⟩ (.int .i64 0)).setCell ⟨M, 3, none⟩ (.int .i64 0)).setCell ⟨X, 0, none⟩ v).drew := by
  intro b h1 h2
  have hm : ∀ k v W', (World.setCell W' ⟨M, k, none⟩ v).heap[b]? = W'.heap[b]? := fun k v W' => Below.heap_setCell W' ⟨M, k, none⟩ v b (by show b ≠ M; omega)
  have hx : ∀ k v W', (World.setCell W' ⟨X, k, none⟩ v).heap[b]? = W'.heap[b]? := fun k v W' => Below.heap_setCell W' ⟨X, k, none⟩ v b (by show b ≠ X; omega)
  show (World.setCell _ ⟨X, 0, none⟩ v).heap[b]? = _
  rw [hx, hm, hm, hm, hm]
theorem LF.set4 {w : World} {s R : Nat} {r : Loop} {W : World} (h : LF w s r W) (b : Blk W R mk0 23) (hw : w.heap.size ≤ R) (v0 v1 v2 v3 : Value) :
    LF w s r ((((W.setCell ⟨R, 0, none⟩ v0).setCell ⟨R, 1, none⟩ v1).setCell ⟨R, 2, none⟩ v2).setCell ⟨R, 3, none⟩ v3).drew ∧ Blk ((((W.setCell ⟨R, 0, none⟩ v0).setCell ⟨R, 1, none⟩ v1).setCell ⟨R, 2, none⟩ v2).setCell ⟨R, 3, none⟩ v3).drew R #[v0, v1, v2, v3] 23 :=
  ⟨((((h.set b hw 0 v0).set (b.set 0 v0) hw 1 v1).set ((b.set 0 v0).set 1 v1) hw 2 v2).set (((b.set 0 v0).set 1 v1).set 2 v2) hw 3 v3).dr, ((((b.set 0 v0).set 1 v1).set 2 v2).set 3 v3).drew⟩
/-- The first bytes are the head's. -/
def same8 (txt : ByteArray) (t8 : List UInt8) (j : Nat) : Prop := ∀ i, i < j → txt.data.toList[i]? = t8[i]?
theorem same8_all {txt : ByteArray} {t8 : List UInt8} (h : same8 txt t8 8) (h1 : txt.size = 8) (h2 : t8.length = 8) : txt.data.toList = t8 := by
  refine List.ext_getElem? fun i => ?_
  by_cases hi : i < 8
  · exact h i hi
  · rw [List.getElem?_eq_none (by have : txt.data.toList.length = 8 := h1; omega), List.getElem?_eq_none (by omega)]
def DecP (w : World) (V : HR) (s : ByteArray) (f : Nat → Nat) (e : Ending) (w' : World) : Prop :=
  (e = .returned (.tuple #[.agg #[.int .i64 (f 0 : Int), .int .i64 (f 3 : Int), .int .i64 (f 1 : Int), .int .i64 (f 2 : Int)], .nilIface]) ∧ s.data.toList = hd8 (f 0) (f 3) (f 1) (f 2) ∧ Below w.heap.size w w') ∨ (e = .returned (.tuple #[.agg mk0, .iface 118 (.pointer (some V.hH))]) ∧ s.data.toList ≠ hd8 (f 0) (f 3) (f 1) (f 2) ∧ Below w.heap.size w w')
set_option maxRecDepth 100000 in
set_option maxHeartbeats 4000000 in
theorem hdec_good (s : ByteArray) (hs8 : s.size = 8) (f : Nat → Nat) (hf : ∀ k, f k < 4294967296) (hRD : ∀ k, k < 4 → ∀ W, Calls Tryd.prog 47 #[.agg (fld k), .string s] W fun e w' => e = .returned (.int .i64 (f k : Int)) ∧ Below W.heap.size W w') (w : World) (V : HR) (hV : HV w V) (hr : rightB (mkN (f 0) (f 3) (f 1) (f 2)) = true) :
    Calls Tryd.prog 33 #[.string s] w (DecP w V s f) := by
  have cH := hV.cH.1
  have hd : ((s.size : Int) != 8) = false := by simp; omega
  have hgl : 0 < w.heap.size := World.block_lt_of_cell? w _ cH
  have CH := Lib.hid cH
  have g0 : w.cell? ⟨4, 0, none⟩ = some (.int .i64 1) := hV.fl 0 _ rfl
  have g1 : w.cell? ⟨4, 1, none⟩ = some (.int .i64 1) := hV.fl 1 _ rfl
  have g2 : w.cell? ⟨4, 2, none⟩ = some (.int .i64 1) := hV.fl 2 _ rfl
  have g3 : w.cell? ⟨4, 3, none⟩ = some (.int .i64 60) := hV.fl 3 _ rfl
  have g4 : w.cell? ⟨4, 4, none⟩ = some (.int .i64 2) := hV.fl 4 _ rfl
  have g5 : w.cell? ⟨4, 5, none⟩ = some (.int .i64 1) := hV.fl 5 _ rfl
  have g6 : w.cell? ⟨4, 6, none⟩ = some (.int .i64 1) := hV.fl 6 _ rfl
  have g7 : w.cell? ⟨4, 7, none⟩ = some (.int .i64 3) := hV.fl 7 _ rfl
  have g8 : w.cell? ⟨4, 8, none⟩ = some (.int .i64 3) := hV.fl 8 _ rfl
  have g9 : w.cell? ⟨4, 9, none⟩ = some (.int .i64 1) := hV.fl 9 _ rfl
  have g10 : w.cell? ⟨4, 10, none⟩ = some (.int .i64 0) := hV.fl 10 _ rfl
  have g11 : w.cell? ⟨4, 11, none⟩ = some (.int .i64 255) := hV.fl 11 _ rfl
  have g12 : w.cell? ⟨4, 12, none⟩ = some (.int .i64 4) := hV.fl 12 _ rfl
  have g13 : w.cell? ⟨4, 13, none⟩ = some (.int .i64 3) := hV.fl 13 _ rfl
  have g14 : w.cell? ⟨4, 14, none⟩ = some (.int .i64 0) := hV.fl 14 _ rfl
  have g15 : w.cell? ⟨4, 15, none⟩ = some (.int .i64 40000) := hV.fl 15 _ rfl
  have gl : 4 < w.heap.size := World.block_lt_of_cell? w _ g0
  have gl1 : 4 < w.heap.size + 1 := by omega
  have gl2 : 4 < w.heap.size + 1 + 1 := by omega
  have i0 : ∀ w, (Instr.index 89 (.agg #[.int .i64 1, .int .i64 1, .int .i64 1, .int .i64 60, .int .i64 2, .int .i64 1, .int .i64 1, .int .i64 3, .int .i64 3, .int .i64 1, .int .i64 0, .int .i64 255, .int .i64 4, .int .i64 3, .int .i64 0, .int .i64 40000]) (.int .i64 0)).run Tryd.prog w = .ok (.agg #[.int .i64 1, .int .i64 1, .int .i64 1, .int .i64 60]) w := fun _ => by kernel_rfl
  have i1 : ∀ w, (Instr.index 89 (.agg #[.int .i64 1, .int .i64 1, .int .i64 1, .int .i64 60, .int .i64 2, .int .i64 1, .int .i64 1, .int .i64 3, .int .i64 3, .int .i64 1, .int .i64 0, .int .i64 255, .int .i64 4, .int .i64 3, .int .i64 0, .int .i64 40000]) (.int .i64 1)).run Tryd.prog w = .ok (.agg #[.int .i64 2, .int .i64 1, .int .i64 1, .int .i64 3]) w := fun _ => by kernel_rfl
  have i2 : ∀ w, (Instr.index 89 (.agg #[.int .i64 1, .int .i64 1, .int .i64 1, .int .i64 60, .int .i64 2, .int .i64 1, .int .i64 1, .int .i64 3, .int .i64 3, .int .i64 1, .int .i64 0, .int .i64 255, .int .i64 4, .int .i64 3, .int .i64 0, .int .i64 40000]) (.int .i64 2)).run Tryd.prog w = .ok (.agg #[.int .i64 3, .int .i64 1, .int .i64 0, .int .i64 255]) w := fun _ => by kernel_rfl
  have i3 : ∀ w, (Instr.index 89 (.agg #[.int .i64 1, .int .i64 1, .int .i64 1, .int .i64 60, .int .i64 2, .int .i64 1, .int .i64 1, .int .i64 3, .int .i64 3, .int .i64 1, .int .i64 0, .int .i64 255, .int .i64 4, .int .i64 3, .int .i64 0, .int .i64 40000]) (.int .i64 3)).run Tryd.prog w = .ok (.agg #[.int .i64 4, .int .i64 3, .int .i64 0, .int .i64 40000]) w := fun _ => by kernel_rfl
  have HV := Lib.hid hV
  have HRD := Lib.hid hRD
  have HS8 := Lib.hid hs8
  clear hV hs8 hRD cH
  refine (callsIn_wide (n := 9)).1 ?_
  refine callsIn_of_wp_marks Tryd.func33 rfl trivial ?_ rfl
  simp only [Tryd.ntmps33, List.size_toArray, List.length_cons, List.length_nil, Nat.reduceAdd, Nat.reduceSub, Array.replicate_succ, Array.replicate_zero, List.push_toArray, List.append_toArray, List.nil_append, List.cons_append]
  refine wpIn_wide.2 ?_
  go_wp2
  go_step3
  go_wp2
  clear gl gl1 gl2 g0 g1 g2 g3 g4 g5 g6 g7 g8 g9 g10 g11 g12 g13 g14 g15
  obtain ⟨b0, b1, b2, hB1, hsz⟩ := blk3 w #[.string s] mk0 mk0 9 23 88
  have hB1' := hB1
  have HB1 := Lib.hid hB1'
  clear hB1'
  generalize ((w.alloc (.cells #[.string s] 9)).alloc (.cells mk0 23)).alloc (.cells mk0 88) = w1 at b0 b1 b2 hB1 hsz HB1 ⊢
  have hBS := b0
  have B0 := Lib.hid b0
  have B1 := Lib.hid b1
  have B2 := Lib.hid b2
  clear b0 b1 b2 hB1 hBS hsz
  go_loopw [18] (fun s18 wr => ∃ k : Nat, k ≤ 4 ∧ s18 = .int .i64 (k : Int) ∧ Blk wr w.heap.size #[.string s] 9 ∧ Blk wr (w.heap.size + 1) mk0 23 ∧ Blk wr (w.heap.size + 1 + 1) (nk f k) 88 ∧ Below w.heap.size w wr) (fun s18 _ => 4 - (intOf s18).toNat)
  case atStart => exact ⟨0, by omega, rfl, B0.out, B1.out, B2.out, HB1.out⟩
  case round =>
    obtain ⟨k, hk, rfl, q0, q1, q2, hB⟩ := hrel
    clear B0 B1 B2 HB1
    have c0 : wr.cell? ⟨w.heap.size, 0, none⟩ = some (.string s) := q0.cell rfl
    have Q0 := Lib.hid q0
    have Q1 := Lib.hid q1
    have Q2 := Lib.hid q2
    have HB := Lib.hid hB
    have l0 := q0.lt
    clear q0 q1 q2 hB
    rcases (by omega : k = 0 ∨ k = 1 ∨ k = 2 ∨ k = 3 ∨ k = 4) with rfl | rfl | rfl | rfl | rfl
    · go_wp2_with fail
      have hrd : Calls Tryd.prog 47 #[.agg #[.int .i64 1, .int .i64 1, .int .i64 1, .int .i64 60], .string s] (wr.alloc (.cells #[.int .i64 1, .int .i64 1, .int .i64 1, .int .i64 60] 70)) fun e w' => e = .returned (.int .i64 (f 0 : Int)) ∧ Below (wr.alloc (.cells #[.int .i64 1, .int .i64 1, .int .i64 1, .int .i64 60] 70)).heap.size (wr.alloc (.cells #[.int .i64 1, .int .i64 1, .int .i64 1, .int .i64 60] 70)) w' := HRD.out 0 (by omega) (wr.alloc (.cells #[.int .i64 1, .int .i64 1, .int .i64 1, .int .i64 60] 70))
      ((with_reducible refine hrd.mono ?_))
      rintro e u ⟨rfl, hb⟩
      clear hrd
      have hu := ((Below.refl _ wr).alloc (Nat.le_refl _) (.cells #[.int .i64 1, .int .i64 1, .int .i64 1, .int .i64 60] 70)).trans (hb.mono (by simp))
      have q0 := Q0.out.below' hu
      have q1 := Q1.out.below' hu
      have q2 : Blk u (w.heap.size + 1 + 1) #[.int .i64 0, .int .i64 0, .int .i64 0, .int .i64 0] 88 := Q2.out.below' hu
      have z0 : u.cell? ⟨w.heap.size + 1 + 1, 0, none⟩ = some (.int .i64 0) := q2.cell rfl
      have f0 := q2.frozen 0
      have R0 := Lib.hid q0
      have R1 := Lib.hid q1
      have R2 := Lib.hid q2
      have RB := Lib.hid (bstep HB.out hu)
      clear q0 q1 q2 hu hb c0
      go_wp2
      go_roundw
      case rel => exact ⟨0 + 1, by omega, by go_num, R0.out.other (by omega) _ _, R1.out.other (by omega) _ _, R2.out.set 0 _, bel_set' RB.out (by omega)⟩
      case measure => simp [intOf]
    · go_wp2_with fail
      have hrd : Calls Tryd.prog 47 #[.agg #[.int .i64 2, .int .i64 1, .int .i64 1, .int .i64 3], .string s] (wr.alloc (.cells #[.int .i64 2, .int .i64 1, .int .i64 1, .int .i64 3] 70)) fun e w' => e = .returned (.int .i64 (f 1 : Int)) ∧ Below (wr.alloc (.cells #[.int .i64 2, .int .i64 1, .int .i64 1, .int .i64 3] 70)).heap.size (wr.alloc (.cells #[.int .i64 2, .int .i64 1, .int .i64 1, .int .i64 3] 70)) w' := HRD.out 1 (by omega) (wr.alloc (.cells #[.int .i64 2, .int .i64 1, .int .i64 1, .int .i64 3] 70))
      ((with_reducible refine hrd.mono ?_))
      rintro e u ⟨rfl, hb⟩
      clear hrd
      have hu := ((Below.refl _ wr).alloc (Nat.le_refl _) (.cells #[.int .i64 2, .int .i64 1, .int .i64 1, .int .i64 3] 70)).trans (hb.mono (by simp))
      have q0 := Q0.out.below' hu
      have q1 := Q1.out.below' hu
      have q2 : Blk u (w.heap.size + 1 + 1) #[.int .i64 (f 0 : Int), .int .i64 0, .int .i64 0, .int .i64 0] 88 := Q2.out.below' hu
      have z0 : u.cell? ⟨w.heap.size + 1 + 1, 1, none⟩ = some (.int .i64 0) := q2.cell rfl
      have f0 := q2.frozen 1
      have R0 := Lib.hid q0
      have R1 := Lib.hid q1
      have R2 := Lib.hid q2
      have RB := Lib.hid (bstep HB.out hu)
      clear q0 q1 q2 hu hb c0
      go_wp2
      go_roundw
      case rel => exact ⟨1 + 1, by omega, by go_num, R0.out.other (by omega) _ _, R1.out.other (by omega) _ _, R2.out.set 1 _, bel_set' RB.out (by omega)⟩
      case measure => simp [intOf]
    · go_wp2_with fail
      have hrd : Calls Tryd.prog 47 #[.agg #[.int .i64 3, .int .i64 1, .int .i64 0, .int .i64 255], .string s] (wr.alloc (.cells #[.int .i64 3, .int .i64 1, .int .i64 0, .int .i64 255] 70)) fun e w' => e = .returned (.int .i64 (f 2 : Int)) ∧ Below (wr.alloc (.cells #[.int .i64 3, .int .i64 1, .int .i64 0, .int .i64 255] 70)).heap.size (wr.alloc (.cells #[.int .i64 3, .int .i64 1, .int .i64 0, .int .i64 255] 70)) w' := HRD.out 2 (by omega) (wr.alloc (.cells #[.int .i64 3, .int .i64 1, .int .i64 0, .int .i64 255] 70))
      ((with_reducible refine hrd.mono ?_))
      rintro e u ⟨rfl, hb⟩
      clear hrd
      have hu := ((Below.refl _ wr).alloc (Nat.le_refl _) (.cells #[.int .i64 3, .int .i64 1, .int .i64 0, .int .i64 255] 70)).trans (hb.mono (by simp))
      have q0 := Q0.out.below' hu
      have q1 := Q1.out.below' hu
      have q2 : Blk u (w.heap.size + 1 + 1) #[.int .i64 (f 0 : Int), .int .i64 (f 1 : Int), .int .i64 0, .int .i64 0] 88 := Q2.out.below' hu
      have z0 : u.cell? ⟨w.heap.size + 1 + 1, 2, none⟩ = some (.int .i64 0) := q2.cell rfl
      have f0 := q2.frozen 2
      have R0 := Lib.hid q0
      have R1 := Lib.hid q1
      have R2 := Lib.hid q2
      have RB := Lib.hid (bstep HB.out hu)
      clear q0 q1 q2 hu hb c0
      go_wp2
      go_roundw
      case rel => exact ⟨2 + 1, by omega, by go_num, R0.out.other (by omega) _ _, R1.out.other (by omega) _ _, R2.out.set 2 _, bel_set' RB.out (by omega)⟩
      case measure => simp [intOf]
    · go_wp2_with fail
      have hrd : Calls Tryd.prog 47 #[.agg #[.int .i64 4, .int .i64 3, .int .i64 0, .int .i64 40000], .string s] (wr.alloc (.cells #[.int .i64 4, .int .i64 3, .int .i64 0, .int .i64 40000] 70)) fun e w' => e = .returned (.int .i64 (f 3 : Int)) ∧ Below (wr.alloc (.cells #[.int .i64 4, .int .i64 3, .int .i64 0, .int .i64 40000] 70)).heap.size (wr.alloc (.cells #[.int .i64 4, .int .i64 3, .int .i64 0, .int .i64 40000] 70)) w' := HRD.out 3 (by omega) (wr.alloc (.cells #[.int .i64 4, .int .i64 3, .int .i64 0, .int .i64 40000] 70))
      ((with_reducible refine hrd.mono ?_))
      rintro e u ⟨rfl, hb⟩
      clear hrd
      have hu := ((Below.refl _ wr).alloc (Nat.le_refl _) (.cells #[.int .i64 4, .int .i64 3, .int .i64 0, .int .i64 40000] 70)).trans (hb.mono (by simp))
      have q0 := Q0.out.below' hu
      have q1 := Q1.out.below' hu
      have q2 : Blk u (w.heap.size + 1 + 1) #[.int .i64 (f 0 : Int), .int .i64 (f 1 : Int), .int .i64 (f 2 : Int), .int .i64 0] 88 := Q2.out.below' hu
      have z0 : u.cell? ⟨w.heap.size + 1 + 1, 3, none⟩ = some (.int .i64 0) := q2.cell rfl
      have f0 := q2.frozen 3
      have R0 := Lib.hid q0
      have R1 := Lib.hid q1
      have R2 := Lib.hid q2
      have RB := Lib.hid (bstep HB.out hu)
      clear q0 q1 q2 hu hb c0
      go_wp2
      go_roundw
      case rel => exact ⟨3 + 1, by omega, by go_num, R0.out.other (by omega) _ _, R1.out.other (by omega) _ _, R2.out.set 3 _, bel_set' RB.out (by omega)⟩
      case measure => simp [intOf]
    · have q2 : Blk wr (w.heap.size + 1 + 1) #[.int .i64 (f 0 : Int), .int .i64 (f 1 : Int), .int .i64 (f 2 : Int), .int .i64 (f 3 : Int)] 88 := Q2.out
      have n0 : wr.cell? ⟨w.heap.size + 1 + 1, 0, none⟩ = some (.int .i64 (f 0 : Int)) := q2.cell rfl
      have n1 : wr.cell? ⟨w.heap.size + 1 + 1, 1, none⟩ = some (.int .i64 (f 1 : Int)) := q2.cell rfl
      have n2 : wr.cell? ⟨w.heap.size + 1 + 1, 2, none⟩ = some (.int .i64 (f 2 : Int)) := q2.cell rfl
      have n3 : wr.cell? ⟨w.heap.size + 1 + 1, 3, none⟩ = some (.int .i64 (f 3 : Int)) := q2.cell rfl
      clear q2
      go_wp2_with fail
      have hB2 := bel_al' HB.out (.cells #[.int .i64 (f 0 : Int), .int .i64 (f 3 : Int), .int .i64 (f 1 : Int), .int .i64 (f 2 : Int)] 23)
      have hrt := hright_any (mkN (f 0) (f 3) (f 1) (f 2)) (wr.alloc (.cells #[.int .i64 (f 0 : Int), .int .i64 (f 3 : Int), .int .i64 (f 1 : Int), .int .i64 (f 2 : Int)] 23)) V (HV.out.below hB2)
      rw [hr] at hrt
      dsimp only [mkA, mkN] at hrt
      ((with_reducible refine hrt.mono ?_))
      rintro e u ⟨rfl, hb⟩
      clear hrt
      have hu := ((Below.refl _ wr).alloc (Nat.le_refl _) (.cells #[.int .i64 (f 0 : Int), .int .i64 (f 3 : Int), .int .i64 (f 1 : Int), .int .i64 (f 2 : Int)] 23)).trans (hb.mono (by simp))
      have bM := (Blk.new wr #[.int .i64 (f 0 : Int), .int .i64 (f 3 : Int), .int .i64 (f 1 : Int), .int .i64 (f 2 : Int)] 23).below' hb
      have m0 : u.cell? ⟨wr.heap.size, 0, none⟩ = some (.int .i64 (f 0 : Int)) := bM.cell rfl
      have m1 : u.cell? ⟨wr.heap.size, 1, none⟩ = some (.int .i64 (f 3 : Int)) := bM.cell rfl
      have m2 : u.cell? ⟨wr.heap.size, 2, none⟩ = some (.int .i64 (f 1 : Int)) := bM.cell rfl
      have m3 : u.cell? ⟨wr.heap.size, 3, none⟩ = some (.int .i64 (f 2 : Int)) := bM.cell rfl
      have hMl := bM.lt
      have HQ0 := Lib.hid (Q0.out.below' hu)
      have HQ1 := Lib.hid (Q1.out.below' hu)
      have hl2 := Q2.out.lt
      have HM := Lib.hid bM
      have HBU := Lib.hid (bstep HB.out hu)
      have hzr := HB.out.size
      clear hu hb hB2 n0 n1 n2 n3 c0 l0 hgl bM Q0 Q1 Q2
      go_wp2_with fail
      go_step3
      go_wp2_with fail
      ((with_reducible refine (hbytes_any (mkN (f 0) (f 3) (f 1) (f 2)) _).mono ?_))
      rintro e w' ⟨rfl, rfl⟩
      go_wp2_with fail
      refine (wpIn_wide (n := 9)).1 ?_
      obtain ⟨x0, x1, hB3, hsz⟩ := blk2 u #[.nilIface] #[.int .i64 (f 0 : Int), .int .i64 (f 3 : Int), .int .i64 (f 1 : Int), .int .i64 (f 2 : Int)] 57 61
      have y0 := HQ0.out.below' hB3
      have y1 := HQ1.out.below' hB3
      have y2 := HM.out.below' hB3
      have hB4 := bstep HBU.out hB3
      dsimp only [mkA, mkN]
      generalize (u.alloc (.cells #[.nilIface] 57)).alloc (.cells #[.int .i64 (f 0 : Int), .int .i64 (f 3 : Int), .int .i64 (f 1 : Int), .int .i64 (f 2 : Int)] 61) = W1 at x0 x1 y0 y1 y2 hB4 hsz ⊢
      refine range_direct (by omega) (gf := 44) (lb := #[.pointer (some ⟨u.heap.size + 1, 0, none⟩)]) rfl (enters_of Tryd.func44 (by kernel_rfl) rfl) ?_
      intro fn r hrr
      obtain ⟨sl, hs1⟩ : ∃ s, W1.heap.size = s := ⟨_, rfl⟩
      have hzW : ((W1.alloc (.deferred (some []))).alloc (.loop (r .ready none))).heap.size = W1.heap.size + 1 + 1 := by simp
      have jd0 : JD w W1.heap.size w.heap.size (w.heap.size + 1) wr.heap.size u.heap.size (W1.heap.size + 1 + 1) (r .ready none) s #[.int .i64 (f 0 : Int), .int .i64 (f 3 : Int), .int .i64 (f 1 : Int), .int .i64 (f 2 : Int)] .nilIface ((W1.alloc (.deferred (some []))).alloc (.loop (r .ready none))) :=
        ⟨LF.first w W1 hB4 _, (y0.alloc _).alloc _, (y1.alloc _).alloc _, (y2.alloc _).alloc _, (x0.alloc _).alloc _, ⟨by omega, by omega, by omega, by omega⟩, ⟨by omega, by omega, by omega⟩, by omega, by omega, by omega⟩
      have bC0 := (x1.alloc (.deferred (some []))).alloc (.loop (r .ready none))
      have hV0 := (HV.out.below hB4).below (((Below.refl _ W1).alloc (Nat.le_refl _) (.deferred (some []))).alloc (by simp) (.loop (r .ready none)))
      generalize (W1.alloc (.deferred (some []))).alloc (.loop (r .ready none)) = W0 at jd0 bC0 hV0 hzW ⊢
      rw [← hzW] at jd0
      rw [hs1] at jd0 hsz hzW ⊢
      have HR := Lib.hid hrr
      have hbt : rightB (mkN (f 0) (f 3) (f 1) (f 2)) = true := hr
      have hin : (1 ≤ f 0 ∧ f 0 ≤ 60) ∧ (1 ≤ f 1 ∧ f 1 ≤ 3) ∧ f 2 ≤ 255 ∧ f 3 ≤ 40000 := by simp [rightB, inFld] at hbt; omega
      obtain ⟨hi0, hi1, hi2, hi3⟩ := hin
      obtain ⟨t8, ht8⟩ : ∃ t, hd8 (f 0) (f 3) (f 1) (f 2) = t := ⟨_, rfl⟩
      have hl8 : t8.length = 8 := by rw [← ht8]; rfl
      have HL8 := Lib.hid hl8
      have HT8 := Lib.hid ht8
      have HZW := Lib.hid hzW
      clear x0 x1 y0 y1 y2 hB3 hB4 hrr hs1 hsz hbt m0 m1 m2 m3 hMl hzW
      refine (hbytes1 8 (by omega) (u.heap.size + 1) (sl + 1) (f 0) (f 3) (f 1) (f 2) hi0.2 hi3 hi1.2 hi2 W0 V hV0 bC0 (fun j W => JD w sl w.heap.size (w.heap.size + 1) wr.heap.size u.heap.size W0.heap.size (r .ready none) s #[.int .i64 (f 0 : Int), .int .i64 (f 3 : Int), .int .i64 (f 1 : Int), .int .i64 (f 2 : Int)] .nilIface W ∧ same8 s t8 j) (fun W => JD w sl w.heap.size (w.heap.size + 1) wr.heap.size u.heap.size W0.heap.size (r .done (some (.exit 2))) s mk0 (.iface 118 (.pointer (some V.hH))) W ∧ s.data.toList ≠ t8)
        ⟨jd0, fun i hi => by omega⟩ (fun j W W' h hb => ⟨h.1.belowN hb, h.2⟩) (fun W W' h hb => ⟨h.1.belowN hb, h.2⟩) ?_).mono ?_
      · rintro j W hj ⟨jd, hsm⟩
        clear jd0 bC0 hV0
        rw [ht8]
        obtain ⟨b, hb⟩ : ∃ b, t8[j]? = some b := ⟨_, List.getElem?_eq_getElem (by rw [hl8]; exact hj)⟩
        rw [show t8.getD j 0 = b by simp [List.getD, hb]]
        refine yield_direct HR.out jd.lf.lop rfl ?_
        have hlop := jd.lf.lop
        have jB := jd.put (r .busy none)
        have hkb := Kb.putObj W0.heap.size W (sl + 1) (.loop (r .busy none)) jd.hs
        have HLop := Lib.hid hlop
        have HKB := Lib.hid hkb
        have hszp : (W.putObj (sl + 1) (.loop (r .busy none))).heap.size = W.heap.size := by simp
        have HSP := Lib.hid hszp
        have HSM := Lib.hid hsm
        have HBB := Lib.hid hb
        have HHS := Lib.hid jd.hs
        have hjs : j < s.size := by rw [HS8.out]; exact hj
        have cHb := cell_below CH.out jB.lf.low
        clear hb hlop jd hkb hszp hsm hl8 ht8
        gi_wp2
        refine ⟨HLop.out, ?_⟩
        generalize W.putObj (sl + 1) (.loop (r .busy none)) = Wb at jB HKB HSP cHb ⊢
        have cS : Wb.cell? ⟨w.heap.size, 0, none⟩ = some (.string s) := jB.bS.cell rfl
        have m0 : Wb.cell? ⟨wr.heap.size, 0, none⟩ = some (.int .i64 (f 0 : Int)) := jB.bM.cell rfl
        have m1 : Wb.cell? ⟨wr.heap.size, 1, none⟩ = some (.int .i64 (f 3 : Int)) := jB.bM.cell rfl
        have m2 : Wb.cell? ⟨wr.heap.size, 2, none⟩ = some (.int .i64 (f 1 : Int)) := jB.bM.cell rfl
        have m3 : Wb.cell? ⟨wr.heap.size, 3, none⟩ = some (.int .i64 (f 2 : Int)) := jB.bM.cell rfl
        have e0 := jB.bM.frozen 0
        have e1 := jB.bM.frozen 1
        have e2 := jB.bM.frozen 2
        have e3 := jB.bM.frozen 3
        have cX : Wb.cell? ⟨u.heap.size, 0, none⟩ = some .nilIface := jB.bX.cell rfl
        have eX := jB.bX.frozen 0
        have i0 : (0 : Int) ≤ (j : Int) := by omega
        have i1 : (j : Int) < (s.size : Int) := by omega
        have HJB := Lib.hid jB
        clear jB HLop
        have hgl : 0 < Wb.heap.size := World.block_lt_of_cell? Wb _ cHb
        have hmx : Tryd.prog.follows .mixedOrders = true := by kernel_rfl
        have hd1 : 1 ≤ 8 - 1 := by omega
        have hne1 : wr.heap.size ≠ u.heap.size := blk_ne HJB.out.bM HJB.out.bX (by decide)
        gi_wp2
        · have hne : s[j] ≠ b := fun e => by
            have h1 : (((s[j]).toNat : Int) != (b.toNat : Int)) = true := by assumption
            rw [e] at h1
            simp at h1
          have HNE := Lib.hid hne
          clear hne
          refine wpIn_region_any hmx ?_
          refine anyIn_round rfl (by rfl) _ _ _ _ ?_
          change wpAnyIn _ _ _ _ _ _ _ _ _ (World.drew _)
          refine wpAnyIn_take (i := 0) (v := .agg mk0) rfl rfl (by kernel_rfl) (by kernel_rfl) (by kernel_rfl) (fun _ _ _ h => h) ⟨Or.inl ⟨by rfl, ?_⟩, fun _ => rfl⟩ ?_
          · intro w; go_simp
          refine wpAnyIn_ready (rs := [1, 2]) (by kernel_rfl) (by simp) ?_
          refine AllReadyIn.cons rfl (fun K hK => ?_) (AllReadyIn.cons rfl (fun K hK => ?_) AllReadyIn.nil)
          · go_simp
            refine hK _ _ ?_
            clear hK K
            refine wpAnyIn_ready (rs := [2]) (by kernel_rfl) (by simp) ?_
            refine AllReadyIn.cons rfl (fun K hK => ?_) AllReadyIn.nil
            go_simp
            refine hK _ _ ?_
            clear hK K
            refine wpAnyIn_ready (rs := [3]) (by kernel_rfl) (by simp) ?_
            refine AllReadyIn.cons rfl (fun K hK => ?_) AllReadyIn.nil
            go_simp
            refine hK _ _ ?_
            clear hK K
            refine wpAnyIn_done (by kernel_rfl) ?_ _
            have jX : JD w sl w.heap.size (w.heap.size + 1) wr.heap.size u.heap.size W0.heap.size (r .busy none) s mk0 (.iface 118 (.pointer (some V.hH))) ((((((Wb.setCell ⟨wr.heap.size, 0, none⟩ (.int .i64 0)).setCell ⟨wr.heap.size, 1, none⟩ (.int .i64 0)).setCell ⟨wr.heap.size, 2, none⟩ (.int .i64 0)).setCell ⟨wr.heap.size, 3, none⟩ (.int .i64 0)).setCell ⟨u.heap.size, 0, none⟩ (.iface 118 (.pointer (some V.hH)))).drew) := ((((((HJB.out.setM 0 (.int .i64 0)).setM 1 (.int .i64 0)).setM 2 (.int .i64 0)).setM 3 (.int .i64 0)).setX (.iface 118 (.pointer (some V.hH)))).dr)
            have hKf := HKB.out.trans (kb_sets (v := .iface 118 (.pointer (some V.hH))) HJB.out.lt.2.2.1 HJB.out.lt.2.2.2) (by rw [HSP.out]; exact Nat.le_refl _)
            have hsf : W.heap.size ≤ ((((((Wb.setCell ⟨wr.heap.size, 0, none⟩ (.int .i64 0)).setCell ⟨wr.heap.size, 1, none⟩ (.int .i64 0)).setCell ⟨wr.heap.size, 2, none⟩ (.int .i64 0)).setCell ⟨wr.heap.size, 3, none⟩ (.int .i64 0)).setCell ⟨u.heap.size, 0, none⟩ (.iface 118 (.pointer (some V.hH)))).drew).heap.size := by simp [World.setCell, HSP.out]
            clear m0 m1 m2 m3 e0 e1 e2 e3 cX eX cS hgl cHb
            generalize (((((Wb.setCell ⟨wr.heap.size, 0, none⟩ (.int .i64 0)).setCell ⟨wr.heap.size, 1, none⟩ (.int .i64 0)).setCell ⟨wr.heap.size, 2, none⟩ (.int .i64 0)).setCell ⟨wr.heap.size, 3, none⟩ (.int .i64 0)).setCell ⟨u.heap.size, 0, none⟩ (.iface 118 (.pointer (some V.hH)))).drew = Wf at jX hKf hsf ⊢
            gi_wp2
            exact ⟨jX.lf.lop, false, rfl, ⟨jX.put _, fun e => HNE.out (by have h1 := ba_get s j hjs; rw [e, HBB.out] at h1; simpa using h1.symm)⟩, hKf.trans (Kb.putObj _ _ _ _ HHS.out) hsf⟩
          · go_simp
            refine hK _ _ ?_
            clear hK K
            refine wpAnyIn_ready (rs := [1]) (by kernel_rfl) (by simp) ?_
            refine AllReadyIn.cons rfl (fun K hK => ?_) AllReadyIn.nil
            go_simp
            refine hK _ _ ?_
            clear hK K
            refine wpAnyIn_ready (rs := [3]) (by kernel_rfl) (by simp) ?_
            refine AllReadyIn.cons rfl (fun K hK => ?_) AllReadyIn.nil
            go_simp
            refine hK _ _ ?_
            clear hK K
            refine wpAnyIn_done (by kernel_rfl) ?_ _
            have jX : JD w sl w.heap.size (w.heap.size + 1) wr.heap.size u.heap.size W0.heap.size (r .busy none) s mk0 (.iface 118 (.pointer (some V.hH))) ((((((Wb.setCell ⟨wr.heap.size, 0, none⟩ (.int .i64 0)).setCell ⟨wr.heap.size, 1, none⟩ (.int .i64 0)).setCell ⟨wr.heap.size, 2, none⟩ (.int .i64 0)).setCell ⟨wr.heap.size, 3, none⟩ (.int .i64 0)).setCell ⟨u.heap.size, 0, none⟩ (.iface 118 (.pointer (some V.hH)))).drew) := ((((((HJB.out.setM 0 (.int .i64 0)).setM 1 (.int .i64 0)).setM 2 (.int .i64 0)).setM 3 (.int .i64 0)).setX (.iface 118 (.pointer (some V.hH)))).dr)
            have hKf := HKB.out.trans (kb_sets (v := .iface 118 (.pointer (some V.hH))) HJB.out.lt.2.2.1 HJB.out.lt.2.2.2) (by rw [HSP.out]; exact Nat.le_refl _)
            have hsf : W.heap.size ≤ ((((((Wb.setCell ⟨wr.heap.size, 0, none⟩ (.int .i64 0)).setCell ⟨wr.heap.size, 1, none⟩ (.int .i64 0)).setCell ⟨wr.heap.size, 2, none⟩ (.int .i64 0)).setCell ⟨wr.heap.size, 3, none⟩ (.int .i64 0)).setCell ⟨u.heap.size, 0, none⟩ (.iface 118 (.pointer (some V.hH)))).drew).heap.size := by simp [World.setCell, HSP.out]
            clear m0 m1 m2 m3 e0 e1 e2 e3 cX eX cS hgl cHb
            generalize (((((Wb.setCell ⟨wr.heap.size, 0, none⟩ (.int .i64 0)).setCell ⟨wr.heap.size, 1, none⟩ (.int .i64 0)).setCell ⟨wr.heap.size, 2, none⟩ (.int .i64 0)).setCell ⟨wr.heap.size, 3, none⟩ (.int .i64 0)).setCell ⟨u.heap.size, 0, none⟩ (.iface 118 (.pointer (some V.hH)))).drew = Wf at jX hKf hsf ⊢
            gi_wp2
            exact ⟨jX.lf.lop, false, rfl, ⟨jX.put _, fun e => HNE.out (by have h1 := ba_get s j hjs; rw [e, HBB.out] at h1; simpa using h1.symm)⟩, hKf.trans (Kb.putObj _ _ _ _ HHS.out) hsf⟩
        · have he : s[j] = b := by
            have h1 : (((s[j]).toNat : Int) != (b.toNat : Int)) = false := by assumption
            have h2 : ((s[j]).toNat : Int) = (b.toNat : Int) := by simpa using h1
            exact UInt8.toNat_inj.1 (by omega)
          exact ⟨HJB.out.lf.lop, true, rfl, ⟨HJB.out.put _, fun i hi => by
            by_cases e : i = j
            · subst e
              rw [ba_get s i hjs, he, HBB.out]
            · exact HSM.out i (by omega)⟩, HKB.out.trans (Kb.putObj _ _ _ _ HHS.out) (by rw [HSP.out]; exact Nat.le_refl _)⟩
      · rintro e W ⟨hv, ⟨jd, hsm⟩ | ⟨jd, hne⟩⟩
        · refine ⟨hv, .ready, none, by decide, jd.lf.lop, fun rr => ?_⟩
          have jP := jd.put rr
          have HEQ := Lib.hid (same8_all hsm HS8.out HL8.out)
          clear jd0 bC0 hV0 jd hsm
          generalize W.putObj (sl + 1) (.loop rr) = W5 at jP ⊢
          have m0 : W5.cell? ⟨wr.heap.size, 0, none⟩ = some (.int .i64 (f 0 : Int)) := jP.bM.cell rfl
          have m1 : W5.cell? ⟨wr.heap.size, 1, none⟩ = some (.int .i64 (f 3 : Int)) := jP.bM.cell rfl
          have m2 : W5.cell? ⟨wr.heap.size, 2, none⟩ = some (.int .i64 (f 1 : Int)) := jP.bM.cell rfl
          have m3 : W5.cell? ⟨wr.heap.size, 3, none⟩ = some (.int .i64 (f 2 : Int)) := jP.bM.cell rfl
          have cX : W5.cell? ⟨u.heap.size, 0, none⟩ = some (.nilIface) := jP.bX.cell rfl
          have r0 : W5.cell? ⟨w.heap.size + 1, 0, none⟩ = some (.int .i64 0) := jP.bR.cell rfl
          have r1 : W5.cell? ⟨w.heap.size + 1, 1, none⟩ = some (.int .i64 0) := jP.bR.cell rfl
          have r2 : W5.cell? ⟨w.heap.size + 1, 2, none⟩ = some (.int .i64 0) := jP.bR.cell rfl
          have r3 : W5.cell? ⟨w.heap.size + 1, 3, none⟩ = some (.int .i64 0) := jP.bR.cell rfl
          have e0 := jP.bR.frozen 0
          have e1 := jP.bR.frozen 1
          have e2 := jP.bR.frozen 2
          have e3 := jP.bR.frozen 3
          have nRM := jP.ne
          have nRX := blk_ne jP.bR jP.bX (by decide)
          have HJP := Lib.hid jP
          clear jP
          gi_wp2
          go_wp2
          try go_region
          all_goals
            go_wp2
            try rw [Exit.noGoto_ret]
            obtain ⟨lF, bF⟩ := LF.set4 HJP.out.lf HJP.out.bR HJP.out.ge.1 (.int .i64 (f 0 : Int)) (.int .i64 (f 3 : Int)) (.int .i64 (f 1 : Int)) (.int .i64 (f 2 : Int))
            refine ⟨by simp, .inl ⟨_, _, rfl, run_takeDeferred lF.dfr, ?_⟩⟩
            have bG := blk_putObj (.deferred none) bF lF.dfr rfl
            have lowG := lF.low.trans (belowK_b (w := w) (Nat.le_refl _) _ sl _ (.deferred none) lF.hs lF.dfr rfl rfl)
            generalize World.putObj _ sl (.deferred none) = Wg at bG lowG ⊢
            have p0 : Wg.cell? ⟨w.heap.size + 1, 0, none⟩ = some (.int .i64 (f 0 : Int)) := bG.cell rfl
            have p1 : Wg.cell? ⟨w.heap.size + 1, 1, none⟩ = some (.int .i64 (f 3 : Int)) := bG.cell rfl
            have p2 : Wg.cell? ⟨w.heap.size + 1, 2, none⟩ = some (.int .i64 (f 1 : Int)) := bG.cell rfl
            have p3 : Wg.cell? ⟨w.heap.size + 1, 3, none⟩ = some (.int .i64 (f 2 : Int)) := bG.cell rfl
            exact ⟨.tuple #[.agg #[.int .i64 (f 0 : Int), .int .i64 (f 3 : Int), .int .i64 (f 1 : Int), .int .i64 (f 2 : Int)], .nilIface], by simp [results, Tryd.results33, go_sem, p0, p1, p2, p3], .inl ⟨rfl, HEQ.out.trans HT8.out.symm, lowG⟩⟩
        · refine ⟨hv, .done, some (.exit 2), by decide, jd.lf.lop, fun rr => ?_⟩
          have jP := jd.put rr
          have HEQ := Lib.hid hne
          clear jd0 bC0 hV0 jd hne
          generalize W.putObj (sl + 1) (.loop rr) = W5 at jP ⊢
          have m0 : W5.cell? ⟨wr.heap.size, 0, none⟩ = some (.int .i64 0) := jP.bM.cell rfl
          have m1 : W5.cell? ⟨wr.heap.size, 1, none⟩ = some (.int .i64 0) := jP.bM.cell rfl
          have m2 : W5.cell? ⟨wr.heap.size, 2, none⟩ = some (.int .i64 0) := jP.bM.cell rfl
          have m3 : W5.cell? ⟨wr.heap.size, 3, none⟩ = some (.int .i64 0) := jP.bM.cell rfl
          have cX : W5.cell? ⟨u.heap.size, 0, none⟩ = some (.iface 118 (.pointer (some V.hH))) := jP.bX.cell rfl
          have r0 : W5.cell? ⟨w.heap.size + 1, 0, none⟩ = some (.int .i64 0) := jP.bR.cell rfl
          have r1 : W5.cell? ⟨w.heap.size + 1, 1, none⟩ = some (.int .i64 0) := jP.bR.cell rfl
          have r2 : W5.cell? ⟨w.heap.size + 1, 2, none⟩ = some (.int .i64 0) := jP.bR.cell rfl
          have r3 : W5.cell? ⟨w.heap.size + 1, 3, none⟩ = some (.int .i64 0) := jP.bR.cell rfl
          have e0 := jP.bR.frozen 0
          have e1 := jP.bR.frozen 1
          have e2 := jP.bR.frozen 2
          have e3 := jP.bR.frozen 3
          have nRM := jP.ne
          have nRX := blk_ne jP.bR jP.bX (by decide)
          have HJP := Lib.hid jP
          clear jP
          gi_wp2
          go_wp2
          try go_region
          all_goals
            go_wp2
            try rw [Exit.noGoto_ret]
            obtain ⟨lF, bF⟩ := LF.set4 HJP.out.lf HJP.out.bR HJP.out.ge.1 (.int .i64 0) (.int .i64 0) (.int .i64 0) (.int .i64 0)
            refine ⟨by simp, .inl ⟨_, _, rfl, run_takeDeferred lF.dfr, ?_⟩⟩
            have bG := blk_putObj (.deferred none) bF lF.dfr rfl
            have lowG := lF.low.trans (belowK_b (w := w) (Nat.le_refl _) _ sl _ (.deferred none) lF.hs lF.dfr rfl rfl)
            generalize World.putObj _ sl (.deferred none) = Wg at bG lowG ⊢
            have p0 : Wg.cell? ⟨w.heap.size + 1, 0, none⟩ = some (.int .i64 0) := bG.cell rfl
            have p1 : Wg.cell? ⟨w.heap.size + 1, 1, none⟩ = some (.int .i64 0) := bG.cell rfl
            have p2 : Wg.cell? ⟨w.heap.size + 1, 2, none⟩ = some (.int .i64 0) := bG.cell rfl
            have p3 : Wg.cell? ⟨w.heap.size + 1, 3, none⟩ = some (.int .i64 0) := bG.cell rfl
            exact ⟨.tuple #[.agg mk0, .iface 118 (.pointer (some V.hH))], by simp [results, Tryd.results33, go_sem, p0, p1, p2, p3], .inr ⟨rfl, fun e => HEQ.out (e.trans HT8.out), lowG⟩⟩
end Go.Proofs.YtmikkbhillkpkaaDoor
