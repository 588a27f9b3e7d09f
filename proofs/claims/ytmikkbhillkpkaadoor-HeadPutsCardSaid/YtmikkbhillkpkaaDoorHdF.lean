/-
  head.Encode.
-/
import Derived.Test.YtmikkbhillkpkaaDoorHdE
namespace Go.Proofs.YtmikkbhillkpkaaDoor
open Go.RowKit Go.Lib Go.Shelf
attribute [local go_sem] Oper.semAt_some
set_option linter.unusedSimpArgs false
set_option linter.unusedVariables false

theorem LF.belowN {w : World} {s n : Nat} {r : Loop} {W W' : World} (h : LF w s r W) (hb : Below n W W') (hn : w.heap.size ≤ n) (hs : s + 1 < n) : LF w s r W' :=
  ⟨(hb.block s (by omega)).trans h.dfr, (hb.block (s + 1) hs).trans h.lop, h.low.trans (hb.mono hn), h.hs⟩
theorem own_belowN {W W' : World} {base n g k cap : Nat} {e : TypeId} {size : Nat} {xs : List Value} (h : W.ownsRow base e size (.slice (some ⟨g, 0, none⟩) k cap) k xs) (hb : Below n W W') (hg : g < n) : W'.ownsRow base e size (.slice (some ⟨g, 0, none⟩) k cap) k xs := by
  refine ⟨h.1, ?_⟩
  rcases h.2 with ⟨h1, h2⟩ | ⟨g', cap', cur, hv, h1, h2, h3⟩
  · cases h1
  · simp at hv
    obtain ⟨rfl, rfl⟩ := hv
    exact .inr ⟨g, cap, cur, rfl, h1, (hb.block g hg).trans h2, h3⟩

/-- The text so far, the loop's own blocks. -/
structure JE (w : World) (s Tb g n : Nat) (r : Loop) (l : List UInt8) (W : World) : Prop where
  lf : LF w s r W
  box : Blk W Tb #[.slice (some ⟨g, 0, none⟩) l.length 8] 34
  row : W.ownsRow w.heap.size 5 1 (.slice (some ⟨g, 0, none⟩) l.length 8) l.length (byteCells l)
  hT : w.heap.size ≤ Tb ∧ Tb < n
  hg : w.heap.size ≤ g ∧ g < n
  hs : s + 1 < n
  hn : w.heap.size ≤ n
  sz : n ≤ W.heap.size
theorem JE.belowN {w : World} {s Tb g n : Nat} {r : Loop} {l : List UInt8} {W W' : World} (h : JE w s Tb g n r l W) (hb : Below n W W') : JE w s Tb g n r l W' :=
  ⟨h.lf.belowN hb h.hn h.hs, h.box.below hb h.hT.2, own_belowN h.row hb h.hg.2, h.hT, h.hg, h.hs, h.hn, Nat.le_trans h.sz hb.size⟩
theorem JE.put {w : World} {s Tb g n : Nat} {r : Loop} {l : List UInt8} {W : World} (h : JE w s Tb g n r l W) (r' : Loop) : JE w s Tb g n r' l (W.putObj (s + 1) (.loop r')) :=
  ⟨h.lf.put r', blk_putObj _ h.box h.lf.lop rfl, ownsRow_putObj h.row _ h.lf.lop rfl, h.hT, h.hg, h.hs, h.hn, by simpa using h.sz⟩
/-- Behind an append to the text, stored back. -/
theorem JE.app {w : World} {s Tb g n : Nat} {r : Loop} {l : List UInt8} {b : UInt8} {W w2 : World} {o : Obj} (h : JE w s Tb g n r l W)
    (hown : w2.ownsRow w.heap.size 5 1 (.slice (some ⟨g, 0, none⟩) (l.length + 1) 8) (l.length + 1) (byteCells l ++ byteCells [b])) (hg : (W.alloc o).grownBy w2 (some g)) :
    JE w s Tb g n r (l ++ [b]) (w2.setCell ⟨Tb, 0, none⟩ (.slice (some ⟨g, 0, none⟩) (l.length + 1) 8)) ∧ Kb n W (w2.setCell ⟨Tb, 0, none⟩ (.slice (some ⟨g, 0, none⟩) (l.length + 1) 8)) := by
  have hrow := h.row.alloc o
  have bT1 := h.box.alloc o
  have hne : g ≠ Tb := fun e => own_nty h.row h.box (by decide) (by simp [Value.ownBlock, e])
  have bT : Blk w2 Tb _ _ := bT1.grown hg (fun e => hne (by simpa using e.symm))
  have lf1 := h.lf.al o
  have hn1 : g ≠ s := fun e => own_nob h.row h.lf.dfr rfl (by simp [Value.ownBlock, e])
  have hn2 : g ≠ s + 1 := fun e => own_nob h.row h.lf.lop rfl (by simp [Value.ownBlock, e])
  have lf2 : LF w s r w2 := ⟨(hg.block s (Array.getElem?_eq_some_iff.1 lf1.dfr).1 (fun e => hn1 (by simpa using e.symm))).trans lf1.dfr, (hg.block (s + 1) (Array.getElem?_eq_some_iff.1 lf1.lop).1 (fun e => hn2 (by simpa using e.symm))).trans lf1.lop,
    lf1.low.grown hg lf1.low.size (fun j e => by cases e; exact h.hg.1), h.lf.hs⟩
  have hl : (l ++ [b]).length = l.length + 1 := by simp
  have hsz := hg.size
  have hsn := h.sz
  simp at hsz
  refine ⟨⟨lf2.set bT h.hT.1 0 _, ?_, ?_, h.hT, h.hg, h.hs, h.hn, by simp [World.setCell]; omega⟩, ?_⟩
  · rw [hl]; exact bT.set 0 _
  · rw [hl, byteCells_app]; exact hown.kept (grownBy_setCell' w2 _ _) (.inr (fun e => hne (by simpa [Value.ownBlock] using e)))
  · intro b' h1 h2
    have h3 := h.hT.2
    have h4 := h.hg.2
    rw [Below.heap_setCell _ _ _ _ (by show b' ≠ Tb; omega), hg.block b' (by simp; omega) (fun e => by simp at e; omega), Below.heap_alloc _ _ _ h2]
theorem Kb.refl (n : Nat) (W : World) : Kb n W W := fun _ _ _ => rfl
theorem Kb.putObj (n : Nat) (W : World) (D : Nat) (o : Obj) (h : D < n) : Kb n W (W.putObj D o) := fun b h1 _ => World.putObj_heap_other (by omega)
theorem Kb.trans {n : Nat} {A B C : World} (h : Kb n A B) (k : Kb n B C) (hs : A.heap.size ≤ B.heap.size) : Kb n A C := fun b h1 h2 => (k b h1 (by omega)).trans (h b h1 h2)
theorem push_all (ns : List UInt8) (s : ByteArray) : (ns.map fun b : UInt8 => (b.toNat : Int)).foldl (fun r n => r.push (UInt8.ofNat n.toNat)) s = ⟨s.data ++ ns.toArray⟩ := by
  induction ns generalizing s with
  | nil => simp
  | cons b ns ih =>
    rw [List.map_cons, List.foldl_cons, ih]
    simp [ByteArray.push]
/-- Bytes of the call's own, as a text. -/
theorem run_str {W : World} {base g k c : Nat} {l : List UInt8} (h : W.ownsRow base 5 1 (.slice (some ⟨g, 0, none⟩) k c) k (byteCells l)) : (convert 34 9 (.slice (some ⟨g, 0, none⟩) k c)).run Tryd.prog W = .ok (.string ⟨l.toArray⟩) W := by
  have hl : l.length = k := by have := h.1; simpa [byteCells_length] using this
  rw [run_convert_bytes_string W _ _ 5 _ _ _ Tryd.underlying34 (by kernel_rfl) (by kernel_rfl)]
  rw [run_bytesToString W _ _ _ (l.map fun b : UInt8 => (b.toNat : Int)) ?_, push_all]
  · simp
  · have := run_loadCells_list (P := Tryd.prog) W ⟨g, 0, none⟩ (byteCells l) (h.cells rfl)
    rw [byteCells_length, hl] at this
    rw [this]
    simp [byteCells, Function.comp_def]
theorem henc_no (m : Mk) (h : rightB m = false) (w : World) (V : HR) (hV : HV w V) : Calls Tryd.prog 10 #[.agg (mkA m)] w fun e w' => e = .returned (.tuple #[.string ⟨#[]⟩, .int .i64 60]) ∧ Below w.heap.size w w' := by
  obtain ⟨b0, hB0, hs0⟩ := blk1 w (mkA m) 23
  have hr := hright_any m _ V (hV.below hB0)
  rw [h] at hr
  have HR := Lib.hid hr
  have HB0 := Lib.hid hB0
  have HVV := Lib.hid hV
  clear hr h hB0 b0 hs0 hV
  go_enter Tryd.func10, Tryd.ntmps10
  dsimp only [mkA] at HR HB0 ⊢
  go_wp2_with fail
  ((with_reducible refine HR.out.mono ?_))
  rintro e w1 ⟨rfl, hb⟩
  have hv1 := HVV.out.below (bstep HB0.out hb)
  have cH := hv1.cH.1
  have HN := Lib.hid (hnum_head V w1 hv1)
  have HB := Lib.hid (bstep HB0.out hb)
  clear hb hv1 HR
  go_wp2_with fail
  ((with_reducible refine HN.out.mono ?_))
  rintro e w' ⟨rfl, rfl⟩
  go_wp2
  go_ret2
  exact ⟨rfl, HB.out⟩
end Go.Proofs.YtmikkbhillkpkaaDoor
