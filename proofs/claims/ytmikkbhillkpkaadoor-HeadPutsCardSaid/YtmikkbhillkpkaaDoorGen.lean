/-
  Small laws on blocks of cells: what a block holds behind a store, a new block, a turn of another block. No program in sight.
-/
import Derived.RangeFuncNested
import Derived.RangeFuncBound
import Derived.RangeFuncCalls
import Derived.RangeFuncLeaves
import Derived.Below
import Derived.Scope
import Derived.WalkMore
namespace Go.Proofs.YtmikkbhillkpkaaDoor
open Go.RowKit

/-- Block B holds the cells cs, of type t, none of them frozen. -/
def Blk (W : World) (B : Nat) (cs : Array Value) (t : TypeId) : Prop := W.heap[B]? = some (.cells cs t (0, 0))
theorem Blk.lt {W : World} {B : Nat} {cs : Array Value} {t : TypeId} (h : Blk W B cs t) : B < W.heap.size := (Array.getElem?_eq_some_iff.1 h).1
theorem Blk.cell {W : World} {B : Nat} {cs : Array Value} {t : TypeId} (h : Blk W B cs t) {k : Nat} {v : Value} (hk : cs[k]? = some v) : W.cell? ⟨B, k, none⟩ = some v := by
  simp [World.cell?, show W.heap[B]? = _ from h, hk]
theorem Blk.frozen {W : World} {B : Nat} {cs : Array Value} {t : TypeId} (h : Blk W B cs t) (k : Nat) : W.frozen? ⟨B, k, none⟩ = false := by
  simp [World.frozen?, show W.heap[B]? = _ from h]
theorem Blk.new (W : World) (cs : Array Value) (t : TypeId) : Blk (W.alloc (.cells cs t)) W.heap.size cs t := World.alloc_heap_new W _
theorem Blk.alloc {W : World} {B : Nat} {cs : Array Value} {t : TypeId} (h : Blk W B cs t) (o : Obj) : Blk (W.alloc o) B cs t := (Below.heap_alloc W o B h.lt).trans h
theorem Blk.drew {W : World} {B : Nat} {cs : Array Value} {t : TypeId} (h : Blk W B cs t) : Blk W.drew B cs t := h
theorem Blk.set {W : World} {B : Nat} {cs : Array Value} {t : TypeId} (h : Blk W B cs t) (k : Nat) (v : Value) : Blk (W.setCell ⟨B, k, none⟩ v) B (cs.setIfInBounds k v) t := by
  obtain ⟨hlt, hk⟩ := Array.getElem?_eq_some_iff.1 h
  show (W.heap.modify B _)[B]? = _
  rw [Array.getElem?_eq_getElem (by rw [Array.size_modify]; exact hlt), Array.getElem_modify_self, hk]
  rfl
theorem Blk.other {W : World} {B B' : Nat} {cs : Array Value} {t : TypeId} (h : Blk W B cs t) (hne : B ≠ B') (k : Nat) (v : Value) : Blk (W.setCell ⟨B', k, none⟩ v) B cs t :=
  (Below.heap_setCell W ⟨B', k, none⟩ v B hne).trans h
theorem Blk.below {W W' : World} {n B : Nat} {cs : Array Value} {t : TypeId} (h : Blk W B cs t) (hb : Below n W W') (hB : B < n) : Blk W' B cs t := (hb.block B hB).trans h
theorem Blk.below' {W W' : World} {B : Nat} {cs : Array Value} {t : TypeId} (h : Blk W B cs t) (hb : Below W.heap.size W W') : Blk W' B cs t := h.below hb h.lt
theorem blk_own {β : Type} (B : Nat) (t : TypeId) (f : β → Array Value) : Own (fun s W => Blk W B (f s) t) := fun _ X _ _ hs hg hrow =>
  (hg.block B (Blk.lt hs) (fun e => by obtain ⟨o, ho, hc⟩ := hrow B e.symm; rw [show X.heap[B]? = _ from hs] at ho; cases ho; cases hc)).trans hs
theorem row_own {β : Type} (base : Nat) (e : TypeId) (size g cap : Nat) (k : β → Nat) (xs : β → List Value) : Own (fun s W => World.ownsRow W base e size (.slice (some ⟨g, 0, none⟩) (k s) cap) (k s) (xs s)) := fun s X Y row hs hg hrow => by
  refine hs.kept hg (.inr fun e' => ?_)
  rcases hs.2 with ⟨h, _⟩ | ⟨g', cap', cur, hv, _, hgb, _⟩
  · cases h
  · simp at hv
    obtain ⟨o, ho, hc⟩ := hrow g (by simpa [Value.ownBlock] using e'.symm)
    rw [hv.1] at ho
    rw [hgb] at ho; cases ho; cases hc
theorem row_cell {W : World} {base : Nat} {e : TypeId} {g cap k : Nat} {xs : List Value} (h : World.ownsRow W base e 1 (.slice (some ⟨g, 0, none⟩) k cap) k xs) (i : Nat) (v : Value) (hi : xs[i]? = some v) : W.cell? ⟨g, i, none⟩ = some v := by
  rcases h.2 with ⟨h, _⟩ | ⟨g', cap', cur, hv, _, hgb, _, _, _, ht⟩
  · cases h
  · simp at hv
    obtain ⟨rfl, _⟩ := hv
    have : cur[i]? = some v := by
      rw [← ht, List.getElem?_take] at hi
      split at hi
      · simpa using hi
      · cases hi
    simp [World.cell?, hgb, this]
theorem blk_putObj {W : World} {B D : Nat} {cs : Array Value} {t : TypeId} {o : Obj} (o' : Obj) (h : Blk W B cs t) (hD : W.heap[D]? = some o) (ho : o.isCells = false) : Blk (W.putObj D o') B cs t :=
  (blk_own (β := Unit) B t (fun _ => cs)).putObj o' (s := ()) h hD ho
theorem Blk.grown {W W' : World} {row : Option Nat} {B : Nat} {cs : Array Value} {t : TypeId} (h : Blk W B cs t) (hg : W.grownBy W' row) (hne : some B ≠ row) : Blk W' B cs t := (hg.block B h.lt hne).trans h
/-- What holds at a cell holds behind whatever leaves below alone. -/
theorem cell_below {w w' : World} {p : Addr} {v : Value} (h : w.cell? p = some v) (hb : Below w.heap.size w w') : w'.cell? p = some v := (hb.cell (World.block_lt_of_cell? w _ h)).trans h
theorem cell_al {w : World} {p : Addr} {v : Value} (o : Obj) (h : w.cell? p = some v) : (w.alloc o).cell? p = some v := cell_below h ((Below.refl _ w).alloc (Nat.le_refl _) o)
theorem cell_dr {w : World} {p : Addr} {v : Value} (h : w.cell? p = some v) : w.drew.cell? p = some v := h
/-- What a world below one world keeps, below a later one. -/
theorem bstep {w w' w'' : World} (h : Below w.heap.size w w') (k : Below w'.heap.size w' w'') : Below w.heap.size w w'' := h.trans (k.mono h.size)

theorem blk1 (w : World) (c0 : Array Value) (t0 : TypeId) : Blk (w.alloc (.cells c0 t0)) (w.heap.size) c0 t0 ∧ Below w.heap.size w (w.alloc (.cells c0 t0)) ∧ (w.alloc (.cells c0 t0)).heap.size = w.heap.size + 1 := by
  exact ⟨Blk.new w c0 t0, (Below.refl _ w).alloc (Nat.le_refl _) _, by simp⟩
theorem blk2 (w : World) (c0 c1 : Array Value) (t0 t1 : TypeId) : Blk ((w.alloc (.cells c0 t0)).alloc (.cells c1 t1)) (w.heap.size) c0 t0 ∧ Blk ((w.alloc (.cells c0 t0)).alloc (.cells c1 t1)) (w.heap.size + 1) c1 t1 ∧ Below w.heap.size w ((w.alloc (.cells c0 t0)).alloc (.cells c1 t1)) ∧ ((w.alloc (.cells c0 t0)).alloc (.cells c1 t1)).heap.size = w.heap.size + 1 + 1 := by
  obtain ⟨h0, hb, hs⟩ := blk1 w c0 t0
  have hn := Blk.new (w.alloc (.cells c0 t0)) c1 t1
  rw [hs] at hn
  exact ⟨h0.alloc _, hn, hb.alloc hb.size _, by rw [World.size_alloc, hs]⟩
theorem blk3 (w : World) (c0 c1 c2 : Array Value) (t0 t1 t2 : TypeId) : Blk (((w.alloc (.cells c0 t0)).alloc (.cells c1 t1)).alloc (.cells c2 t2)) (w.heap.size) c0 t0 ∧ Blk (((w.alloc (.cells c0 t0)).alloc (.cells c1 t1)).alloc (.cells c2 t2)) (w.heap.size + 1) c1 t1 ∧ Blk (((w.alloc (.cells c0 t0)).alloc (.cells c1 t1)).alloc (.cells c2 t2)) (w.heap.size + 1 + 1) c2 t2 ∧ Below w.heap.size w (((w.alloc (.cells c0 t0)).alloc (.cells c1 t1)).alloc (.cells c2 t2)) ∧ (((w.alloc (.cells c0 t0)).alloc (.cells c1 t1)).alloc (.cells c2 t2)).heap.size = w.heap.size + 1 + 1 + 1 := by
  obtain ⟨h0, h1, hb, hs⟩ := blk2 w c0 c1 t0 t1
  have hn := Blk.new ((w.alloc (.cells c0 t0)).alloc (.cells c1 t1)) c2 t2
  rw [hs] at hn
  exact ⟨h0.alloc _, h1.alloc _, hn, hb.alloc hb.size _, by rw [World.size_alloc, hs]⟩
theorem blk4 (w : World) (c0 c1 c2 c3 : Array Value) (t0 t1 t2 t3 : TypeId) : Blk ((((w.alloc (.cells c0 t0)).alloc (.cells c1 t1)).alloc (.cells c2 t2)).alloc (.cells c3 t3)) (w.heap.size) c0 t0 ∧ Blk ((((w.alloc (.cells c0 t0)).alloc (.cells c1 t1)).alloc (.cells c2 t2)).alloc (.cells c3 t3)) (w.heap.size + 1) c1 t1 ∧ Blk ((((w.alloc (.cells c0 t0)).alloc (.cells c1 t1)).alloc (.cells c2 t2)).alloc (.cells c3 t3)) (w.heap.size + 1 + 1) c2 t2 ∧ Blk ((((w.alloc (.cells c0 t0)).alloc (.cells c1 t1)).alloc (.cells c2 t2)).alloc (.cells c3 t3)) (w.heap.size + 1 + 1 + 1) c3 t3 ∧ Below w.heap.size w ((((w.alloc (.cells c0 t0)).alloc (.cells c1 t1)).alloc (.cells c2 t2)).alloc (.cells c3 t3)) ∧ ((((w.alloc (.cells c0 t0)).alloc (.cells c1 t1)).alloc (.cells c2 t2)).alloc (.cells c3 t3)).heap.size = w.heap.size + 1 + 1 + 1 + 1 := by
  obtain ⟨h0, h1, h2, hb, hs⟩ := blk3 w c0 c1 c2 t0 t1 t2
  have hn := Blk.new (((w.alloc (.cells c0 t0)).alloc (.cells c1 t1)).alloc (.cells c2 t2)) c3 t3
  rw [hs] at hn
  exact ⟨h0.alloc _, h1.alloc _, h2.alloc _, hn, hb.alloc hb.size _, by rw [World.size_alloc, hs]⟩
theorem blk5 (w : World) (c0 c1 c2 c3 c4 : Array Value) (t0 t1 t2 t3 t4 : TypeId) : Blk (((((w.alloc (.cells c0 t0)).alloc (.cells c1 t1)).alloc (.cells c2 t2)).alloc (.cells c3 t3)).alloc (.cells c4 t4)) (w.heap.size) c0 t0 ∧ Blk (((((w.alloc (.cells c0 t0)).alloc (.cells c1 t1)).alloc (.cells c2 t2)).alloc (.cells c3 t3)).alloc (.cells c4 t4)) (w.heap.size + 1) c1 t1 ∧ Blk (((((w.alloc (.cells c0 t0)).alloc (.cells c1 t1)).alloc (.cells c2 t2)).alloc (.cells c3 t3)).alloc (.cells c4 t4)) (w.heap.size + 1 + 1) c2 t2 ∧ Blk (((((w.alloc (.cells c0 t0)).alloc (.cells c1 t1)).alloc (.cells c2 t2)).alloc (.cells c3 t3)).alloc (.cells c4 t4)) (w.heap.size + 1 + 1 + 1) c3 t3 ∧ Blk (((((w.alloc (.cells c0 t0)).alloc (.cells c1 t1)).alloc (.cells c2 t2)).alloc (.cells c3 t3)).alloc (.cells c4 t4)) (w.heap.size + 1 + 1 + 1 + 1) c4 t4 ∧ Below w.heap.size w (((((w.alloc (.cells c0 t0)).alloc (.cells c1 t1)).alloc (.cells c2 t2)).alloc (.cells c3 t3)).alloc (.cells c4 t4)) ∧ (((((w.alloc (.cells c0 t0)).alloc (.cells c1 t1)).alloc (.cells c2 t2)).alloc (.cells c3 t3)).alloc (.cells c4 t4)).heap.size = w.heap.size + 1 + 1 + 1 + 1 + 1 := by
  obtain ⟨h0, h1, h2, h3, hb, hs⟩ := blk4 w c0 c1 c2 c3 t0 t1 t2 t3
  have hn := Blk.new ((((w.alloc (.cells c0 t0)).alloc (.cells c1 t1)).alloc (.cells c2 t2)).alloc (.cells c3 t3)) c4 t4
  rw [hs] at hn
  exact ⟨h0.alloc _, h1.alloc _, h2.alloc _, h3.alloc _, hn, hb.alloc hb.size _, by rw [World.size_alloc, hs]⟩
theorem blk6 (w : World) (c0 c1 c2 c3 c4 c5 : Array Value) (t0 t1 t2 t3 t4 t5 : TypeId) : Blk ((((((w.alloc (.cells c0 t0)).alloc (.cells c1 t1)).alloc (.cells c2 t2)).alloc (.cells c3 t3)).alloc (.cells c4 t4)).alloc (.cells c5 t5)) (w.heap.size) c0 t0 ∧ Blk ((((((w.alloc (.cells c0 t0)).alloc (.cells c1 t1)).alloc (.cells c2 t2)).alloc (.cells c3 t3)).alloc (.cells c4 t4)).alloc (.cells c5 t5)) (w.heap.size + 1) c1 t1 ∧ Blk ((((((w.alloc (.cells c0 t0)).alloc (.cells c1 t1)).alloc (.cells c2 t2)).alloc (.cells c3 t3)).alloc (.cells c4 t4)).alloc (.cells c5 t5)) (w.heap.size + 1 + 1) c2 t2 ∧ Blk ((((((w.alloc (.cells c0 t0)).alloc (.cells c1 t1)).alloc (.cells c2 t2)).alloc (.cells c3 t3)).alloc (.cells c4 t4)).alloc (.cells c5 t5)) (w.heap.size + 1 + 1 + 1) c3 t3 ∧ Blk ((((((w.alloc (.cells c0 t0)).alloc (.cells c1 t1)).alloc (.cells c2 t2)).alloc (.cells c3 t3)).alloc (.cells c4 t4)).alloc (.cells c5 t5)) (w.heap.size + 1 + 1 + 1 + 1) c4 t4 ∧ Blk ((((((w.alloc (.cells c0 t0)).alloc (.cells c1 t1)).alloc (.cells c2 t2)).alloc (.cells c3 t3)).alloc (.cells c4 t4)).alloc (.cells c5 t5)) (w.heap.size + 1 + 1 + 1 + 1 + 1) c5 t5 ∧ Below w.heap.size w ((((((w.alloc (.cells c0 t0)).alloc (.cells c1 t1)).alloc (.cells c2 t2)).alloc (.cells c3 t3)).alloc (.cells c4 t4)).alloc (.cells c5 t5)) ∧ ((((((w.alloc (.cells c0 t0)).alloc (.cells c1 t1)).alloc (.cells c2 t2)).alloc (.cells c3 t3)).alloc (.cells c4 t4)).alloc (.cells c5 t5)).heap.size = w.heap.size + 1 + 1 + 1 + 1 + 1 + 1 := by
  obtain ⟨h0, h1, h2, h3, h4, hb, hs⟩ := blk5 w c0 c1 c2 c3 c4 t0 t1 t2 t3 t4
  have hn := Blk.new (((((w.alloc (.cells c0 t0)).alloc (.cells c1 t1)).alloc (.cells c2 t2)).alloc (.cells c3 t3)).alloc (.cells c4 t4)) c5 t5
  rw [hs] at hn
  exact ⟨h0.alloc _, h1.alloc _, h2.alloc _, h3.alloc _, h4.alloc _, hn, hb.alloc hb.size _, by rw [World.size_alloc, hs]⟩

/-- The blocks of a list hold what they held. -/
def KS (S : List Nat) (W W' : World) : Prop := W.heap.size ≤ W'.heap.size ∧ ∀ k ∈ S, W'.heap[k]? = W.heap[k]?
theorem KS.refl (S : List Nat) (W : World) : KS S W W := ⟨Nat.le_refl _, fun _ _ => rfl⟩
theorem KS.trans {S : List Nat} {A B C : World} (h : KS S A B) (k : KS S B C) : KS S A C := ⟨Nat.le_trans h.1 k.1, fun i hi => (k.2 i hi).trans (h.2 i hi)⟩
theorem KS.setCell {S : List Nat} (W : World) (B k : Nat) (v : Value) (h : ∀ i ∈ S, i ≠ B) : KS S W (W.setCell ⟨B, k, none⟩ v) := ⟨by simp [World.setCell], fun i hi => Below.heap_setCell W ⟨B, k, none⟩ v i (h i hi)⟩
theorem KS.alloc {S : List Nat} (W : World) (o : Obj) (h : ∀ i ∈ S, i < W.heap.size) : KS S W (W.alloc o) := ⟨by simp, fun i hi => Below.heap_alloc W o i (h i hi)⟩
theorem KS.putObj {S : List Nat} {n : Nat} (hn : ∀ i ∈ S, i < n) (W : World) (l : Nat) (o o' : Obj) (hl : n ≤ l) (_ : W.heap[l]? = some o) (_ : o.isCells = false) (_ : o.isWalk = false) : KS S W (W.putObj l o') :=
  ⟨by simp, fun i hi => World.putObj_heap_other (by have := hn i hi; omega)⟩
theorem KS.grown {S : List Nat} {W W' : World} {row : Option Nat} (hg : W.grownBy W' row) (h : ∀ i ∈ S, i < W.heap.size ∧ some i ≠ row) : KS S W W' := ⟨hg.size, fun i hi => hg.block i (h i hi).1 (h i hi).2⟩
theorem KS.blk {S : List Nat} {W W' : World} (h : KS S W W') {B : Nat} {cs : Array Value} {t : TypeId} (hB : B ∈ S) (b : Blk W B cs t) : Blk W' B cs t := (h.2 B hB).trans b
theorem KS.cell {S : List Nat} {W W' : World} (h : KS S W W') {a : Addr} {v : Value} (hB : a.block ∈ S) (c : W.cell? a = some v) : W'.cell? a = some v := (World.cell?_of_block (h.2 _ hB)).trans c
theorem KS.of_below {S : List Nat} {n : Nat} {W W' : World} (h : Below n W W') (hn : ∀ i ∈ S, i < n) : KS S W W' := ⟨h.size, fun i hi => h.block i (hn i hi)⟩

section
variable {F : Fence} {n : Nat} {P : Program} {Q : Exit → Act → World → Prop} {a : Act} {w : World}
theorem stepR_scope {b : Frame} {k : List Item} {cs : List Frame} {c : Code} : step P (lone (b.atR a (.code (.scope c) :: k)) cs w) = .next (lone (b.atR a (.code c :: .inScope c :: k)) cs w) :=
  step_lone_go (by simp [stepG, stepG.exec, Frame.atR])
theorem stepR_inScope {b : Frame} {k : List Item} {cs : List Frame} {c : Code} : step P (lone (b.atR a (.inScope c :: k)) cs w) = .next (lone (b.atR a k) cs w) :=
  step_lone_go (by simp [stepG, stepG.exec, Frame.atR])
/-- A scope through which the run goes without a goto, inside a fence. -/
theorem wpIn_scope_straight {c : Code} (h : c.wpIn F n P (Exit.noGoto Q) a w) : (Code.scope c).wpIn F n P Q a w := by
  intro b k cs hro hb hr
  have h0 : (lone (b.atR a (.code (.scope c) :: k)) cs w).fenced P F := fenced_calm hb hr rfl
  obtain ⟨e, a₁, w₁, hq, harr⟩ := h b (.inScope c :: k) cs hro hb hr
  cases e with
  | normal => exact ⟨.normal, a₁, w₁, hq, .head h0 stepR_scope (StepsIn.trans harr (.one (fenced_calm hb hr rfl) stepR_inScope))⟩
  | exit id =>
    have hx : exitTo id (.inScope c :: k) = exitTo id k := by simp [exitTo]
    exact ⟨.exit id, a₁, w₁, hq, fun k' hk => .head h0 stepR_scope (harr.1 k' (by rw [hx]; exact hk)),
      fun hr' hk => let ⟨k₁, h1, h2⟩ := harr.2 hr' (by rw [hx]; exact hk); ⟨k₁, h1, .head h0 stepR_scope h2⟩⟩
  | goto l => exact hq.elim
  | ret => exact ⟨_, a₁, w₁, hq, .of_steps (.one h0 stepR_scope) harr⟩
  | panic ch => exact ⟨_, a₁, w₁, hq, .of_steps (.one h0 stepR_scope) harr⟩
  | outgrown => exact ⟨_, a₁, w₁, hq, .of_steps (.one h0 stepR_scope) harr⟩
end
end Go.Proofs.YtmikkbhillkpkaaDoor
