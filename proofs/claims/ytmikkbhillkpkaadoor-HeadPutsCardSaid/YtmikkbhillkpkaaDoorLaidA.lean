/-
  From the condition that listed variables read as listed to what they hold: sentinels, tables of numbers.
-/
import Derived.Test.YtmikkbhillkpkaaDoorAdA
import Derived.Test.YtmikkbhillkpkaaDoorRows
import Derived.ProofKit
import Derived.LaidMore
import Derived.OpenShut
import Derived.Stop.Joined
import Derived.Stop.LaidTwo
import Derived.Lib.LaidTab
namespace Go.Proofs.YtmikkbhillkpkaaDoor.Ad
open Go.RowKit Go.ChangeShapes Go.WideShapes Go.ChangeAt

theorem laidVars_sub {P : Program} {w : World} {L L' : List (String × DataW Unit)} (h : L'.Sublist L) : ∀ ps, DataW.LaidVars P w L ps → ∃ ps', DataW.LaidVars P w L' ps' ∧ ps'.Sublist ps := by
  induction h with
  | slnil => exact fun ps h => ⟨ps, h, List.Sublist.refl _⟩
  | cons x _ ih =>
    rintro ps ⟨g, t, cs, fuel, p, q, _, _, _, _, hq, rfl⟩
    obtain ⟨ps', h1, h2⟩ := ih q hq
    exact ⟨ps', h1, h2.trans (List.sublist_append_right _ _)⟩
  | cons_cons x _ ih =>
    rintro ps ⟨g, t, cs, fuel, p, q, e1, e2, e3, e4, hq, rfl⟩
    obtain ⟨ps', h1, h2⟩ := ih q hq
    exact ⟨_, ⟨g, t, cs, fuel, p, ps', e1, e2, e3, e4, h1, rfl⟩, List.Sublist.append (List.Sublist.refl _) h2⟩
theorem laidMet_sub {P : Program} {w : World} {L L' : List (String × DataW Unit)} (hs : L'.Sublist L) (h : laidMet P L w) : laidMet P L' w := by
  obtain ⟨ps, hv, hnd, hrows⟩ := h
  obtain ⟨ps', h1, h2⟩ := laidVars_sub hs ps hv
  exact ⟨ps', h1, hnd.sublist h2, fun b off hm => hrows b off (h2.subset hm)⟩

theorem Tryd.cellsErr : Tryd.prog.cellsOf 143 = 1 := by kernel_rfl
theorem Tryd.cellsStr : Tryd.prog.cellsOf 9 = 1 := by kernel_rfl
theorem Tryd.star : "*" ++ "errors.errorString" = "*errors.errorString" := by decide
theorem Tryd.rowErr (u : TypeId) (h : Tryd.prog.typeName? 3 u = some "*errors.errorString") : u = 118 :=
  typeName_ptr_named (nm := "errors.errorString") (by rw [Tryd.star]; kernel_rfl) (by kernel_rfl) (by decide) u (by rw [Tryd.star]; exact h)

/-- Two listed sentinels: where they lie, and that they are two. -/
theorem sents2 {n0 n1 : String} {t0 t1 : List UInt8} {L : List (String × DataW Unit)} {W : World} {g0 g1 : Nat} (h : laidMet Tryd.prog L W)
    (hs : List.Sublist [(n0, .iface "*errors.errorString" (.ptr (.agg [.lit (.string t0)]))), (n1, .iface "*errors.errorString" (.ptr (.agg [.lit (.string t1)])))] L)
    (hg0 : Tryd.prog.globalNamed n0 = some g0) (ht0 : (Tryd.prog.globals[g0]?).map (·.type) = some 57) (hg1 : Tryd.prog.globalNamed n1 = some g1) (ht1 : (Tryd.prog.globals[g1]?).map (·.type) = some 57) :
    ∃ a0 a1, Sent W g0 a0 ∧ Sent W g1 a1 ∧ a0 ≠ a1 := by
  obtain ⟨a0, a1, s0, s1, c0, c1, u0, u1, hv0, hv1, _, _, _, _, _, _, hne, hb0, hb1⟩ := laid_sentinels2 (laidMet_sub hs h) hg0 ht0 hg1 ht1 Tryd.underlying57 Tryd.rowErr Tryd.underlying118 Tryd.underlying143 rfl rfl Tryd.underlying9 Tryd.cellsErr Tryd.cellsStr
  exact ⟨a0, a1, ⟨by simpa using World.var?_cell hg0 hv0 0, c0, u0, hb0⟩, ⟨by simpa using World.var?_cell hg1 hv1 0, c1, u1, hb1⟩, hne⟩
theorem Sent.eq {W : World} {g : Nat} {a b : Addr} (h : Sent W g a) (k : Sent W g b) : a = b := by
  have := h.1.symm.trans k.1
  simpa using this

/-- A listed table of integers: its cells. -/
theorem tab1 {n : String} {zs : List Int} {L : List (String × DataW Unit)} {W : World} {g m : Nat} {t : TypeId} (h : laidMet Tryd.prog L W) (hs : List.Sublist [(n, Lib.tabData .i64 zs)] L)
    (hg : Tryd.prog.globalNamed n = some g) (ht : (Tryd.prog.globals[g]?).map (·.type) = some t) (hu : Tryd.prog.underlying t = some (.array m 3)) (hc : Tryd.prog.cellsOf t = m) (i : Nat) (hi : i < zs.length) :
    W.cell? ⟨g, i, none⟩ = some (.int .i64 (zs.getD i 0)) := by
  have hT := Lib.tabIs_of_head hg ht hu Tryd.underlying3 (by kernel_rfl) hc (laidMet_sub hs h)
  have := World.var?_cell hg hT i
  rw [this]
  simp [hi]

/-- Cells that read as a struct of two ints hold them. -/
theorem pair_cells {W : World} {fuel : Nat} {t : TypeId} {f0 f1 : Field} {cs : List Value} {a b : Int} {p : List MemPlace} (hu : Tryd.prog.underlying t = some (.struct #[f0, f1]))
    (e0 : f0.type = 3) (o0 : f0.offset = 0) (e1 : f1.type = 3) (o1 : f1.offset = 1)
    (h : DataW.trod (fun _ => ()) Tryd.prog W 0 (fun _ => true) false fuel t cs = some (.agg [.lit (.int .i64 a), .lit (.int .i64 b)], p)) : cs[0]? = some (.int .i64 a) ∧ cs[1]? = some (.int .i64 b) := by
  obtain ⟨y0, y1, n, hx, hl, h0, h1⟩ := trod_struct2 hu h
  have c3 : Tryd.prog.cellsOf 3 = 1 := by kernel_rfl
  rw [e0, o0, c3] at h0
  rw [e1, o1, c3] at h1
  obtain ⟨k0, q0, rfl, _⟩ := DataW.trod_int Tryd.underlying3 h0
  obtain ⟨k1, q1, rfl, _⟩ := DataW.trod_int Tryd.underlying3 h1
  simp at hx
  obtain ⟨⟨rfl, rfl⟩, _⟩ := hx
  have z0 := congrArg (·[0]?) q0
  have z1 := congrArg (·[0]?) q1
  simp at z0 z1
  exact ⟨z0, z1⟩
end Go.Proofs.YtmikkbhillkpkaaDoor.Ad
