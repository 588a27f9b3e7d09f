/-
  A law that returns true and leaves alone what lay in memory answers as its row says; a list of numbers that came in, opened and read again.
-/
import Derived.Test.YtmikkbhillkpkaaDoorChecked
import Derived.Test.YtmikkbhillkpkaaDoorGen
import Derived.ProofKit
import Derived.OpenShut
import Derived.ChangeSlices
namespace Go.Proofs.YtmikkbhillkpkaaDoor
open Go.RowKit Go.ChangeShapes Go.WideShapes Go.ChangeAt

theorem own : ownKnob Tryd.prog.godebug = none := by kernel_rfl

/-- The row's post for a law without named variables: the arguments read as before, nothing that lay has changed. -/
theorem post_law {H : Type} {enc : TypeId × Value → H} {P : Program} {f : Func} {s : ChangeSpec} {W W' : World} {args : Array Value} {v : Value} {ds : List (DataW H)} {before : List MemPlace}
    (hW : DataW.Whole enc P f.params.toList s.vars false W args.toList ds [] before)
    (hres : ∀ (b : Nat) (sp : Nat → Bool) (hd : Bool), DataW.TrodAll enc P W' b sp hd f.resultTypes.toList (v.resultList f.resultTypes.size) (s.fn H (ds ++ [])).results [])
    (hargs : ∀ sp : Nat → Bool, (∀ p ∈ before, sp p.block = true) → DataW.TrodAll enc P W' 0 sp true f.params.toList args.toList (s.fn H (ds ++ [])).args before)
    (hvars : ∀ sp : Nat → Bool, DataW.TrodVars enc P W' sp s.vars (s.fn H (ds ++ [])).vars [])
    (hb : Below W.heap.size W W') :
    s.post enc P f false true false false W args v W' := by
  have all : ∀ p ∈ before, (fun b => decide (b < W.heap.size)) p.block = true := fun p hp => decide_eq_true (hW.lt p hp)
  exact ⟨ds, [], before, [], before, [], hW, hres _ _ _, hargs _ all, hvars _, World.keptBut_mono (fun p hp => ⟨hp, Or.inr (Or.inl hp)⟩) (hb.frame (· ∈ before)), (fun h => by cases h)⟩

/-- Numbers in memory. -/
def IC (w : World) (q : Option Addr) (n : Nat) : Prop := ∀ i, i < n → ∃ b o x, q = some ⟨b, o, none⟩ ∧ w.cell? ⟨b, o + i, none⟩ = some (.int .i64 x) ∧ (Lit.int .i64 x).wf = true
theorem IC.below {w w' : World} {q : Option Addr} {n : Nat} (h : IC w q n) (hb : Below w.heap.size w w') : IC w' q n := fun i hi => by
  obtain ⟨b, o, x, e, hc, hw⟩ := h i hi
  exact ⟨b, o, x, e, cell_below hc hb, hw⟩

end Go.Proofs.YtmikkbhillkpkaaDoor
