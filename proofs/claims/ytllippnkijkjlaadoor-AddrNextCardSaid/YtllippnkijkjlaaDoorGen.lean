/-
  Small laws on blocks of cells: what a block holds behind a store, a new block, a turn of another block. No program in sight.
-/
import Derived.RangeFuncNested
import Derived.RangeFuncBound
import Derived.RangeFuncCalls
import Derived.RangeFuncLeaves
import Derived.Below
import Derived.Scope
import Derived.WalkMore
namespace Go.Proofs.YtllippnkijkjlaaDoor
open Go.RowKit

/-- Block B holds the cells cs, of type t, none of them frozen. -/
def Blk (W : World) (B : Nat) (cs : Array Value) (t : TypeId) : Prop := W.heap[B]? = some (.cells cs t (0, 0))
theorem Blk.lt {W : World} {B : Nat} {cs : Array Value} {t : TypeId} (h : Blk W B cs t) : B < W.heap.size := (Array.getElem?_eq_some_iff.1 h).1
theorem Blk.cell {W : World} {B : Nat} {cs : Array Value} {t : TypeId} (h : Blk W B cs t) {k : Nat} {v : Value} (hk : cs[k]? = some v) : W.cell? ⟨B, k, none⟩ = some v := by
  simp [World.cell?, show W.heap[B]? = _ from h, hk]
theorem Blk.frozen {W : World} {B : Nat} {cs : Array Value} {t : TypeId} (h : Blk W B cs t) (k : Nat) : W.frozen? ⟨B, k, none⟩ = false := by
  simp [World.frozen?, show W.heap[B]? = _ from h]
theorem Blk.new (W : World) (cs : Array Value) (t : TypeId) : Blk (W.alloc (.cells cs t)) W.heap.size cs t := World.alloc_heap_new W _
theorem Blk.alloc {W : World} {B : Nat} {cs : Array Value} {t : TypeId} (h : Blk W B cs t) (o : Obj) : Blk (W.alloc o) B cs t := (Below.heap_alloc W o B h.lt).trans h
theorem Blk.drew {W : World} {B : Nat} {cs : Array Value} {t : TypeId} (h : Blk W B cs t) : Blk W.drew B cs t := h
theorem Blk.set {W : World} {B : Nat} {cs : Array Value} {t : TypeId} (h : Blk W B cs t) (k : Nat) (v : Value) : Blk (W.setCell ⟨B, k, none⟩ v) B (cs.setIfInBounds k v) t := by
  obtain ⟨hlt, hk⟩ := Array.getElem?_eq_some_iff.1 h
  show (W.heap.modify B _)[B]? = _
  rw [Array.getElem?_eq_getElem (by rw [Array.size_modify]; exact hlt), Array.getElem_modify_self, hk]
  rfl
theorem Blk.other {W : World} {B B' : Nat} {cs : Array Value} {t : TypeId} (h : Blk W B cs t) (hne : B ≠ B') (k : Nat) (v : Value) : Blk (W.setCell ⟨B', k, none⟩ v) B cs t :=
  (Below.heap_setCell W ⟨B', k, none⟩ v B hne).trans h
theorem Blk.below {W W' : World} {n B : Nat} {cs : Array Value} {t : TypeId} (h : Blk W B cs t) (hb : Below n W W') (hB : B < n) : Blk W' B cs t := (hb.block B hB).trans h
theorem Blk.below' {W W' : World} {B : Nat} {cs : Array Value} {t : TypeId} (h : Blk W B cs t) (hb : Below W.heap.size W W') : Blk W' B cs t := h.below hb h.lt
theorem blk_own {β : Type} (B : Nat) (t : TypeId) (f : β → Array Value) : Own (fun s W => Blk W B (f s) t) := fun _ X _ _ hs hg hrow =>
  (hg.block B (Blk.lt hs) (fun e => by obtain ⟨o, ho, hc⟩ := hrow B e.symm; rw [show X.heap[B]? = _ from hs] at ho; cases ho; cases hc)).trans hs
theorem blk_putObj {W : World} {B D : Nat} {cs : Array Value} {t : TypeId} {o : Obj} (o' : Obj) (h : Blk W B cs t) (hD : W.heap[D]? = some o) (ho : o.isCells = false) : Blk (W.putObj D o') B cs t :=
  (blk_own (β := Unit) B t (fun _ => cs)).putObj o' (s := ()) h hD ho
/-- What holds at a cell holds behind whatever leaves below alone. -/
theorem cell_below {w w' : World} {p : Addr} {v : Value} (h : w.cell? p = some v) (hb : Below w.heap.size w w') : w'.cell? p = some v := (hb.cell (World.block_lt_of_cell? w _ h)).trans h
theorem cell_al {w : World} {p : Addr} {v : Value} (o : Obj) (h : w.cell? p = some v) : (w.alloc o).cell? p = some v := cell_below h ((Below.refl _ w).alloc (Nat.le_refl _) o)
theorem cell_dr {w : World} {p : Addr} {v : Value} (h : w.cell? p = some v) : w.drew.cell? p = some v := h
/-- What a world below one world keeps, below a later one. -/
theorem bstep {w w' w'' : World} (h : Below w.heap.size w w') (k : Below w'.heap.size w' w'') : Below w.heap.size w w'' := h.trans (k.mono h.size)

section
variable {F : Fence} {n : Nat} {P : Program} {Q : Exit → Act → World → Prop} {a : Act} {w : World}
theorem stepR_scope {b : Frame} {k : List Item} {cs : List Frame} {c : Code} : step P (lone (b.atR a (.code (.scope c) :: k)) cs w) = .next (lone (b.atR a (.code c :: .inScope c :: k)) cs w) :=
  step_lone_go (by simp [stepG, stepG.exec, Frame.atR])
theorem stepR_inScope {b : Frame} {k : List Item} {cs : List Frame} {c : Code} : step P (lone (b.atR a (.inScope c :: k)) cs w) = .next (lone (b.atR a k) cs w) :=
  step_lone_go (by simp [stepG, stepG.exec, Frame.atR])
/-- A scope through which the run goes without a goto, inside a fence. -/
theorem wpIn_scope_straight {c : Code} (h : c.wpIn F n P (Exit.noGoto Q) a w) : (Code.scope c).wpIn F n P Q a w := by
  intro b k cs hro hb hr
  have h0 : (lone (b.atR a (.code (.scope c) :: k)) cs w).fenced P F := fenced_calm hb hr rfl
  obtain ⟨e, a₁, w₁, hq, harr⟩ := h b (.inScope c :: k) cs hro hb hr
  cases e with
  | normal => exact ⟨.normal, a₁, w₁, hq, .head h0 stepR_scope (StepsIn.trans harr (.one (fenced_calm hb hr rfl) stepR_inScope))⟩
  | exit id =>
    have hx : exitTo id (.inScope c :: k) = exitTo id k := by simp [exitTo]
    exact ⟨.exit id, a₁, w₁, hq, fun k' hk => .head h0 stepR_scope (harr.1 k' (by rw [hx]; exact hk)),
      fun hr' hk => let ⟨k₁, h1, h2⟩ := harr.2 hr' (by rw [hx]; exact hk); ⟨k₁, h1, .head h0 stepR_scope h2⟩⟩
  | goto l => exact hq.elim
  | ret => exact ⟨_, a₁, w₁, hq, .of_steps (.one h0 stepR_scope) harr⟩
  | panic ch => exact ⟨_, a₁, w₁, hq, .of_steps (.one h0 stepR_scope) harr⟩
  | outgrown => exact ⟨_, a₁, w₁, hq, .of_steps (.one h0 stepR_scope) harr⟩
end
end Go.Proofs.YtllippnkijkjlaaDoor
