/-
  An append whose source is a row of the call's own, nil let in. No program in sight.
-/
import Derived.Maps.AppendAt
import Derived.Deep.AppendLies
import Derived.RegionTactic
import Derived.Test.YtmikkbhillkpkaaDoorGen
namespace Go.Proofs.YtmikkbhillkpkaaDoor
open Go.RowKit

section
variable {P : Program} (w : World)
/-- One owned row behind another one. -/
theorem run_app_row {base base2 : Nat} {t e : TypeId} {i : TypeInfo} {z : Value} {size bytes : Nat} (ty : TypeId) (ht : P.underlying t = some (.slice e)) (hi : P.info? e = some i) (hz : i.zero = some z)
    (hsize : i.size = size) (hby : i.bytes = bytes) (hzs : z.cells.size = size) (hsz : 0 < size) {v u : Value} {n m : Nat} {xs ys : List Value} (hv : w.ownsRow base e size v n xs) (hu : w.ownsRow base2 e size u m ys)
    (h1 : ∀ y ∈ ys, y.oneCell' = true) (h63 : n + m ≤ maxLen) (hb : (n + m) * bytes ≤ 140737488355328) (hbase : base ≤ w.heap.size) :
    ∃ v' w', (Builtin.append_ #[t, t] ty #[v, u]).run P w = .ok v' w' ∧ w'.ownsRow base e size v' (n + m) (xs ++ ys) ∧ w.grownBy w' v.ownBlock := by
  have hl := hu.1
  rcases hu.2 with ⟨rfl, rfl⟩ | ⟨g, cap, cur, rfl, _, _, _⟩
  · have hy : ys = [] := List.length_eq_zero_iff.1 (by omega)
    subst hy
    refine ⟨v, w, ?_, by rw [List.append_nil]; exact hv, World.grownBy.refl w _⟩
    rcases hv.2 with ⟨rfl, rfl⟩ | ⟨g, cap, cur, rfl, _, _, hc, _⟩
    · simp [Builtin.append_, run_underlying ht, sizeOf, typeInfo, hi, Builtin.lenOf, Builtin.firstCells]
    · simp [Builtin.append_, run_underlying ht, sizeOf, typeInfo, hi, Builtin.lenOf, Builtin.firstCells, hc, storeCells]
  · obtain ⟨v', w', hr, h2, h3, _⟩ := run_append_own_at (P := P) w base t ty e i z size bytes ht hi hz hsize hby hzs hsz v n xs hv ⟨g, 0, none⟩ m cap ys hl (hu.cells rfl) h1 h63 hb hbase
    exact ⟨v', w', hr, h2, h3⟩
variable {w}
/-- An append of which the run is known, at a step of a region that draws. -/
theorem step_app_run {ops : Array Oper} {o : Oper} {a : Act} {K : Act → World → Prop} {Q : Exit → Act → World → Prop} {E : Prop} (hgd : o.guard = none) {s x : Operand} {t : TypeId}
    (ho : o.op = .call { callee := .builtin .append, args := #[s, x], argTypes := #[t, t] }) {v u : Value} (hs : a.eval s = v) (hx : a.eval x = u)
    (h : ∃ v' w', (Builtin.append_ #[t, t] o.type #[v, u]).run P w = .ok v' w' ∧ K (a.put o.dst v') w') :
    if Region.wanted o (yielded ops a.tmps) = true then Oper.wp P o a w K Q else E := by
  obtain ⟨v', w', hr, hk⟩ := h
  rw [if_pos (by simp [Region.wanted, hgd])]
  unfold Oper.wp execOp
  simp only [ho, resolve, invoke, builtin, Sem.run_bind, Sem.run_pure, Result.andThen_ok, List.map_toArray, List.map_cons, List.map_nil, hs, hx, hr]
  exact hk
end
/-- A block that the call made, known whole, as a row of its own. -/
theorem own_blk {W : World} {base B n size : Nat} {e : TypeId} {cs : List Value} (h : Blk W B cs.toArray e) (hb : base ≤ B) (hs : cs.length = n * size) (hm : n ≤ maxLen) : W.ownsRow base e size (.slice (some ⟨B, 0, none⟩) n n) n cs :=
  ⟨hs, .inr ⟨B, n, cs.toArray, rfl, hb, h, Nat.le_refl _, hm, by simpa using hs, by rw [← hs]; simp⟩⟩
theorem own_belw {W W' : World} {base : Nat} {e : TypeId} {size n : Nat} {v : Value} {xs : List Value} (h : W.ownsRow base e size v n xs) (hb : Below W.heap.size W W') : W'.ownsRow base e size v n xs :=
  h.kept (row := none) ⟨hb.os, hb.tape, hb.output, hb.size, fun k hk _ => hb.block k hk⟩ (Classical.em _)
/-- What appends to a row of the call's own leaves below. -/
theorem bel_grown {w W W' : World} {row : Option Nat} (h : Below w.heap.size w W) (hg : W.grownBy W' row) (hr : ∀ b, row = some b → w.heap.size ≤ b) : Below w.heap.size w W' := h.grown hg h.size hr
end Go.Proofs.YtmikkbhillkpkaaDoor
