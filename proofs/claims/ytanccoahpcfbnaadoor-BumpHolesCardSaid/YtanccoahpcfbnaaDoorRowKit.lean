/-
  A law that returns true and leaves alone what lay in memory answers as its row says; a list of numbers that came in, opened and read again.
-/
import Derived.Test.YtanccoahpcfbnaaDoorChecked
import Derived.Test.YtanccoahpcfbnaaDoorGen
import Derived.ProofKit
import Derived.OpenShut
import Derived.ChangeSlices
namespace Go.Proofs.YtanccoahpcfbnaaDoor
open Go.RowKit Go.ChangeShapes Go.WideShapes Go.ChangeAt

theorem own : ownKnob Tryd.prog.godebug = none := by kernel_rfl

/-- The row's post for a law without named variables: the arguments read as before, nothing that lay has changed. -/
theorem post_law {H : Type} {enc : TypeId × Value → H} {P : Program} {f : Func} {s : ChangeSpec} {W W' : World} {args : Array Value} {v : Value} {ds : List (DataW H)} {before : List MemPlace}
    (hW : DataW.Whole enc P f.params.toList s.vars false W args.toList ds [] before)
    (hres : ∀ (b : Nat) (sp : Nat → Bool) (hd : Bool), DataW.TrodAll enc P W' b sp hd f.resultTypes.toList (v.resultList f.resultTypes.size) (s.fn H (ds ++ [])).results [])
    (hargs : ∀ sp : Nat → Bool, (∀ p ∈ before, sp p.block = true) → DataW.TrodAll enc P W' 0 sp true f.params.toList args.toList (s.fn H (ds ++ [])).args before)
    (hvars : ∀ sp : Nat → Bool, DataW.TrodVars enc P W' sp s.vars (s.fn H (ds ++ [])).vars [])
    (hb : Below W.heap.size W W') :
    s.post enc P f false true false false W args v W' := by
  have all : ∀ p ∈ before, (fun b => decide (b < W.heap.size)) p.block = true := fun p hp => decide_eq_true (hW.lt p hp)
  exact ⟨ds, [], before, [], before, [], hW, hres _ _ _, hargs _ all, hvars _, World.keptBut_mono (fun p hp => ⟨hp, Or.inr (Or.inl hp)⟩) (hb.frame (· ∈ before)), (fun h => by cases h)⟩

/-- Numbers in memory. -/
def IC (w : World) (q : Option Addr) (n : Nat) : Prop := ∀ i, i < n → ∃ b o x, q = some ⟨b, o, none⟩ ∧ w.cell? ⟨b, o + i, none⟩ = some (.int .i64 x) ∧ (Lit.int .i64 x).wf = true
theorem IC.below {w w' : World} {q : Option Addr} {n : Nat} (h : IC w q n) (hb : Below w.heap.size w w') : IC w' q n := fun i hi => by
  obtain ⟨b, o, x, e, hc, hw⟩ := h i hi
  exact ⟨b, o, x, e, cell_below hc hb, hw⟩

set_option maxRecDepth 100000 in
theorem ints_in {H : Type} {enc : TypeId × Value → H} {W : World} {base : Nat} {v : Value} {d : DataW H} {p : List MemPlace} (h : DataW.Trod enc Tryd.prog W 0 (fun _ => true) true 35 v d p)
    (hv : Value.okWide Tryd.prog W .any base 35 v) : ∃ q n cap, v = .slice q n cap ∧ n ≤ cap ∧ cap ≤ maxLen ∧ IC W q n ∧
      ∀ (W' : World) (sp : Nat → Bool), Below W.heap.size W W' → (∀ m ∈ p, sp m.block = true) → DataW.Trod enc Tryd.prog W' 0 sp true 35 v d p := by
  obtain ⟨a0, len, cap, rfl⟩ := okWide_slice Tryd.underlying35 hv
  obtain ⟨fuel, hf⟩ := h
  rcases open_ints Tryd.underlying35 Tryd.underlying3 (by kernel_rfl) hf with ⟨hcs, hx⟩ | ⟨a, len', cap', zs, hcs, _, hl, hm, hz, hx, hcell, hwz⟩
  · simp [Value.cells] at hcs
    obtain ⟨rfl, rfl, rfl⟩ := hcs
    simp only [Prod.mk.injEq] at hx
    obtain ⟨rfl, rfl⟩ := hx
    exact ⟨none, 0, 0, rfl, Nat.le_refl _, by unfold maxLen; omega, fun i hi => by omega, fun W' sp _ _ => ⟨2, by simp [DataW.trod, Tryd.underlying35, Value.cells]⟩⟩
  · simp [Value.cells] at hcs
    obtain ⟨rfl, rfl, rfl⟩ := hcs
    simp only [Prod.mk.injEq] at hx
    obtain ⟨rfl, rfl⟩ := hx
    simp only [if_true] at hz
    refine ⟨some a, len, cap, rfl, hl, hm, fun i hi => ?_, fun W' sp hb hsp => ⟨2, ?_⟩⟩
    · have hc := hcell i (by omega)
      obtain ⟨b, off, spot⟩ := a
      have hspot : spot = none := by simpa [Addr.add] using World.cell?_spot (hcell 0 (by omega))
      subst hspot
      refine ⟨b, off, _, rfl, by rw [← add_plain]; exact hc, hwz _ ?_⟩
      have hiz : i < zs.length := by omega
      rw [show zs.getD i 0 = zs[i] by simp [List.getD, hiz]]
      exact List.getElem_mem _
    · refine shut_ints 0 Tryd.underlying35 Tryd.underlying3 (by kernel_rfl) (Nat.zero_le _) hl hm ?_ (fun i hi => cell_below (hcell i hi) hb) hwz
      by_cases h0 : cap = 0
      · split <;> omega
      · have : sp a.block = true := hsp (.cell a.block (a.off + 0)) (List.mem_map.2 ⟨0, by simp; omega, rfl⟩)
        rw [this]; simp [hz]
end Go.Proofs.YtanccoahpcfbnaaDoor
