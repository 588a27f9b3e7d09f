/-
  A range over a function, walked directly: entering, a round, leaving. For an iterator that writes what its caller reads. No program in sight.
-/
import Derived.Test.YtmikkbhillkpkaaDoorGen
namespace Go.Proofs.YtmikkbhillkpkaaDoor
open Go.RowKit

/-- The record of a loop. -/
def lrec (fn : FuncId) (tmps : Array Value) (ps : Array Tmp) (assign body : Code) (d : Nat) (st : LoopState) (pe : Option Code) : Loop :=
  { state := st, pending := pe, fn := fn, tmps := tmps, params := ps, assign := assign, body := body, defers := d }
/-- How a round may be left: it goes on, or it breaks off. -/
def rpost (l : Nat) (r : LoopState → Option Code → Loop) (R : Ending → World → Prop) : Exit → Act → World → Prop
  | .normal, _, W => W.heap[l]? = some (.loop (r .busy none)) ∧ R (.returned (.bool true)) (W.putObj l (.loop (r .ready none)))
  | .exit id, _, W => W.heap[l]? = some (.loop (r .busy none)) ∧ R (.returned (.bool false)) (W.putObj l (.loop (r .done (some (.exit id)))))
  | _, _, _ => False
theorem yield_direct {n : Nat} {P : Program} {fn : FuncId} {tmps : Array Value} {ps : Array Tmp} {assign body : Code} {d l : Nat} {W : World} {args : Array Value} {R : Ending → World → Prop} {r : LoopState → Option Code → Loop} (hr : r = lrec fn tmps ps assign body d)
    (hl : W.heap[l]? = some (.loop (r .ready none))) (hps : args.size = ps.size)
    (ha : assign.wpIn (Fence.wide.inRound l) n P (Exit.then (fun a₁ W1 => W1.heap[l]? = some (.loop (r .ready none)) ∧ body.wpIn (Fence.wide.inRound l) n P (rpost l r R) a₁ (W1.putObj l (.loop (r .busy none)))) (fun _ _ _ => False))
      { tmps := (ps.zip args).foldl (fun t (p, v) => t.setIfInBounds p v) tmps, defers := [] } W) :
    YieldAt Fence.wide n P l args W R := by
  subst hr
  refine ⟨fn, _, assign, body, run_yield hl hps, roundIn_of_wpIn trivial (wpIn_mono ha ?_)⟩
  intro e a1 W1 h
  cases e with
  | normal =>
    obtain ⟨h1, h2⟩ := h
    refine ⟨_, run_beginRound h1 rfl, wpIn_mono h2 ?_⟩
    intro e a2 W2 k
    cases e with
    | normal => exact ⟨_, _, run_endRound none k.1, k.2⟩
    | exit id => exact ⟨_, _, run_endRound (some (.exit id)) k.1, k.2⟩
    | goto t => exact k.elim
    | ret => exact k.elim
    | panic ch => exact k.elim
    | outgrown => exact k.elim
  | exit id => exact h
  | goto t => exact h
  | ret => exact h
  | panic ch => exact h
  | outgrown => exact h

/-- What must hold behind the iterator. -/
def rdone (n : Nat) (P : Program) (Q : Exit → Act → World → Prop) (a : Act) (W : World) (l : Nat) : Option Code → Prop
  | none => ∀ r : Loop, Q .normal a (W.putObj l (.loop r))
  | some c => ∀ r : Loop, c.wpIn Fence.wide n P Q a (W.putObj l (.loop r))
theorem range_direct {n : Nat} {P : Program} {g : Operand} {ps : Array Tmp} {assign body : Code} {Q : Exit → Act → World → Prop} {a : Act} {w : World} (h1 : 1 ≤ n) {gf : Nat} {lb : Array Value}
    (hg : a.eval g = .func (.func gf) #[] lb) (eg : ∀ args w, (callFunc gf args).run P w = .ok (.enter gf args) w)
    (H : ∀ fn r, r = lrec fn a.tmps ps assign body w.heap.size → CallsIn Fence.wide (n - 1) P gf (#[.func (.yield (w.heap.size + 1)) #[] #[]] ++ lb) ((w.alloc (.deferred (some []))).alloc (.loop (r .ready none)))
      fun e W => (∃ v, e = .returned v) ∧ ∃ st pe, st ≠ .busy ∧ W.heap[w.heap.size + 1]? = some (.loop (r st pe)) ∧ rdone n P Q { a with defers := { target := .collected w.heap.size, args := #[] } :: a.defers } W (w.heap.size + 1) pe) :
    (Code.rangeFunc g ps assign body).wpIn Fence.wide n P Q a w := by
  refine wpIn_rangeFunc fun fn _ => ?_
  have hH := H fn _ rfl
  obtain ⟨W1, hW1⟩ : ∃ W1, (w.alloc (.deferred (some []))).alloc (.loop (lrec fn a.tmps ps assign body w.heap.size .ready none)) = W1 := ⟨_, rfl⟩
  rw [hW1] at hH
  refine ⟨w.heap.size + 1, [{ target := .collected w.heap.size, args := #[] }], W1, { target := .fn (.func gf) lb, args := #[.func (.yield (w.heap.size + 1)) #[] #[]] }, W1, gf, #[.func (.yield (w.heap.size + 1)) #[] #[]] ++ lb, W1, ?_, ?_, ?_, ?_, fun _ => h1, ?_⟩
  · rw [← hW1]
    exact run_enterLoop_outer _ _ _ _ _
  · simp only [resolve, hg]
    simp [go_sem]
  · intro _ _; exact trivial
  · simp [invoke, go_sem, eg]
  · refine hH.mono ?_
    rintro e W ⟨⟨v, rfl⟩, st, pe, hst, hl, hd⟩
    refine ⟨pe, _, run_endLoop hl hst, ?_⟩
    cases pe with
    | none => exact hd _
    | some c => exact hd _
end Go.Proofs.YtmikkbhillkpkaaDoor
