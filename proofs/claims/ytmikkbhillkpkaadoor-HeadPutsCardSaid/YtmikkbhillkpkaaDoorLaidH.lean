/-
  What the condition gives the walks of package head; a head and a text that came in, opened and read again.
-/
import Derived.Test.YtmikkbhillkpkaaDoorLaidA
import Derived.Test.YtmikkbhillkpkaaDoorHdA
import Derived.Test.YtmikkbhillkpkaaDoorRowKit
import Derived.Lib.SmallJoins
import Derived.ChangeMaps5
import Derived.DataShut
import Derived.Deep.Fields
namespace Go.Proofs.YtmikkbhillkpkaaDoor
open Go.RowKit Go.ChangeShapes Go.WideShapes Go.ChangeAt Ad

/-- A number that an int holds. -/
def HInI (f : Int) : Prop := -9223372036854775808 ≤ f ∧ f ≤ 9223372036854775807
theorem hini_of_wf {a : Int} (h : (Lit.int .i64 a).wf = true) : HInI a := by
  simp [Lit.wf, IntKind.min, IntKind.max, IntKind.signed, IntKind.bits] at h
  exact ⟨by omega, by omega⟩
set_option maxRecDepth 100000 in
theorem htext_in {H : Type} {enc : TypeId × Value → H} {W : World} {base : Nat} {v : Value} {d : DataW H} {p : List MemPlace} (h : DataW.Trod enc Tryd.prog W 0 (fun _ => true) true 9 v d p)
    (hv : Value.okWide Tryd.prog W .any base 9 v) : ∃ s : ByteArray, v = .string s ∧ s.size ≤ maxLen ∧ ∀ (W' : World) (sp : Nat → Bool), DataW.Trod enc Tryd.prog W' 0 sp true 9 v d p := by
  obtain ⟨s, rfl, rfl, rfl, hs⟩ := Go.ChangeMaps.open_string Tryd.underlying9 hv h
  exact ⟨s, rfl, hs, fun W' sp => Go.ChangeMaps.shut_string Tryd.underlying9 hs⟩
/-- Cells that read as a struct of four ints hold them. -/
theorem four_cells {W : World} {fuel : Nat} {t : TypeId} {f0 f1 f2 f3 : Field} {cs : List Value} {a b c d : Int} {p : List MemPlace} (hu : Tryd.prog.underlying t = some (.struct #[f0, f1, f2, f3]))
    (e0 : f0.type = 3) (o0 : f0.offset = 0) (e1 : f1.type = 3) (o1 : f1.offset = 1) (e2 : f2.type = 3) (o2 : f2.offset = 2) (e3 : f3.type = 3) (o3 : f3.offset = 3)
    (h : DataW.trod (fun _ => ()) Tryd.prog W 0 (fun _ => true) false fuel t cs = some (.agg [.lit (.int .i64 a), .lit (.int .i64 b), .lit (.int .i64 c), .lit (.int .i64 d)], p)) :
    cs[0]? = some (.int .i64 a) ∧ cs[1]? = some (.int .i64 b) ∧ cs[2]? = some (.int .i64 c) ∧ cs[3]? = some (.int .i64 d) := by
  obtain ⟨xs, n, _, hx, hl, hlen, hf⟩ := DataW.trod_struct hu h
  have c3 : Tryd.prog.cellsOf 3 = 1 := by kernel_rfl
  match xs, hlen, hx with
  | [y0, y1, y2, y3], _, hx =>
    have h0 := hf 0 f0 rfl
    have h1 := hf 1 f1 rfl
    have h2 := hf 2 f2 rfl
    have h3 := hf 3 f3 rfl
    rw [e0, o0, c3] at h0
    rw [e1, o1, c3] at h1
    rw [e2, o2, c3] at h2
    rw [e3, o3, c3] at h3
    replace h0 : DataW.trod (fun _ => ()) Tryd.prog W 0 (fun _ => true) false n 3 ((cs.drop 0).take 1) = some y0 := h0
    replace h1 : DataW.trod (fun _ => ()) Tryd.prog W 0 (fun _ => true) false n 3 ((cs.drop 1).take 1) = some y1 := h1
    replace h2 : DataW.trod (fun _ => ()) Tryd.prog W 0 (fun _ => true) false n 3 ((cs.drop 2).take 1) = some y2 := h2
    replace h3 : DataW.trod (fun _ => ()) Tryd.prog W 0 (fun _ => true) false n 3 ((cs.drop 3).take 1) = some y3 := h3
    obtain ⟨k0, q0, rfl, _⟩ := DataW.trod_int Tryd.underlying3 h0
    obtain ⟨k1, q1, rfl, _⟩ := DataW.trod_int Tryd.underlying3 h1
    obtain ⟨k2, q2, rfl, _⟩ := DataW.trod_int Tryd.underlying3 h2
    obtain ⟨k3, q3, rfl, _⟩ := DataW.trod_int Tryd.underlying3 h3
    simp at hx
    obtain ⟨⟨rfl, rfl, rfl, rfl⟩, _⟩ := hx
    have z0 := congrArg (·[0]?) q0
    have z1 := congrArg (·[0]?) q1
    have z2 := congrArg (·[0]?) q2
    have z3 := congrArg (·[0]?) q3
    simp at z0 z1 z2 z3
    exact ⟨z0, z1, z2, z3⟩

set_option maxRecDepth 100000 in
theorem hv_of_laid {W : World} {L : List (String × DataW Unit)} (h : laidMet Tryd.prog L W)
    (hs : List.Sublist [("selion/head.errNil", Rows.laid_selion_head_errNil), ("selion/head.errAddr", Rows.laid_selion_head_errAddr), ("selion/head.errHead", Rows.laid_selion_head_errHead), ("selion/head.fields", Rows.laid_selion_head_fields)] L) : ∃ V, HV W V := by
  replace h := laidMet_sub hs h
  have gA : Tryd.prog.globalNamed "selion/head.errNil" = some 2 := by kernel_rfl
  have gS : Tryd.prog.globalNamed "selion/head.errAddr" = some 3 := by kernel_rfl
  have gR : Tryd.prog.globalNamed "selion/head.errHead" = some 0 := by kernel_rfl
  have gZ : Tryd.prog.globalNamed "selion/head.fields" = some 4 := by kernel_rfl
  have tA : (Tryd.prog.globals[2]?).map (·.type) = some 57 := by kernel_rfl
  have tS : (Tryd.prog.globals[3]?).map (·.type) = some 57 := by kernel_rfl
  have tR : (Tryd.prog.globals[0]?).map (·.type) = some 57 := by kernel_rfl
  have tZ : (Tryd.prog.globals[4]?).map (·.type) = some 89 := by kernel_rfl
  obtain ⟨a0, a1, s0, s1, n01⟩ := sents2 h (L := _) (by exact (List.Sublist.cons_cons _ (List.Sublist.cons_cons _ (List.nil_sublist _)))) gA tA gS tS
  obtain ⟨b0, b2, r0, r2, n02⟩ := sents2 h (L := _) (by exact (List.Sublist.cons_cons _ (List.Sublist.cons _ (List.Sublist.cons_cons _ (List.nil_sublist _))))) gA tA gR tR
  obtain ⟨c1, c2, q1, q2, n12⟩ := sents2 h (L := _) (by exact (List.Sublist.cons _ (List.Sublist.cons_cons _ (List.Sublist.cons_cons _ (List.nil_sublist _))))) gS tS gR tR
  obtain rfl := s0.eq r0
  obtain rfl := s1.eq q1
  obtain rfl := r2.eq q2
  obtain ⟨ps, ⟨g4, t4, cs, fuel, p, q, hg4, ht4, hv4, hd4, _, _⟩, _, _⟩ := laidMet_sub (L' := [("selion/head.fields", Rows.laid_selion_head_fields)]) (by exact (List.Sublist.cons _ (List.Sublist.cons _ (List.Sublist.cons _ (List.Sublist.cons_cons _ (List.nil_sublist _)))))) h
  obtain rfl := Option.some.inj (gZ.symm.trans hg4)
  obtain rfl := Option.some.inj (tZ.symm.trans ht4)
  have hcell := fun i => World.var?_cell hg4 hv4 i
  obtain ⟨xs, m, _, hx, hl, hn, hel⟩ := DataW.trod_array Tryd.underlying89 hd4
  have c47 : Tryd.prog.cellsOf 70 = 4 := by kernel_rfl
  match xs, hn, hx with
  | [x0, x1, x2, x3], _, hx =>
    simp only [Rows.laid_selion_head_fields, List.map_cons, List.map_nil, Prod.mk.injEq, DataW.agg.injEq, List.cons.injEq] at hx
    obtain ⟨⟨y0, y1, y2, y3, _⟩, _⟩ := hx
    have h0 := hel 0 (by decide)
    have h1 := hel 1 (by decide)
    have h2 := hel 2 (by decide)
    have h3 := hel 3 (by decide)
    obtain ⟨x0a, x0b⟩ := x0
    obtain ⟨x1a, x1b⟩ := x1
    obtain ⟨x2a, x2b⟩ := x2
    obtain ⟨x3a, x3b⟩ := x3
    simp only at y0 y1 y2 y3
    subst y0 y1 y2 y3
    have k0 := four_cells Tryd.underlying70 rfl rfl rfl rfl rfl rfl rfl rfl h0
    have k1 := four_cells Tryd.underlying70 rfl rfl rfl rfl rfl rfl rfl rfl h1
    have k2 := four_cells Tryd.underlying70 rfl rfl rfl rfl rfl rfl rfl rfl h2
    have k3 := four_cells Tryd.underlying70 rfl rfl rfl rfl rfl rfl rfl rfl h3
    rw [c47] at k0 k1 k2 k3
    simp [List.getElem?_drop] at k0 k1 k2 k3
    refine ⟨⟨a0, a1, b2⟩, { cN := s0, cA := s1, cH := r2, nNA := n01, nNH := n02, nAH := n12, fl := fun j v hj => ?_ }⟩
    rw [Nat.zero_add, hcell j]
    have hj' : j < 16 := by
      obtain ⟨hc, _⟩ := List.getElem?_eq_some_iff.mp hj
      exact hc
    rcases (by omega : j = 0 ∨ j = 1 ∨ j = 2 ∨ j = 3 ∨ j = 4 ∨ j = 5 ∨ j = 6 ∨ j = 7 ∨ j = 8 ∨ j = 9 ∨ j = 10 ∨ j = 11 ∨ j = 12 ∨ j = 13 ∨ j = 14 ∨ j = 15) with rfl | rfl | rfl | rfl | rfl | rfl | rfl | rfl | rfl | rfl | rfl | rfl | rfl | rfl | rfl | rfl
    · exact k0.1.trans hj
    · exact k0.2.1.trans hj
    · exact k0.2.2.1.trans hj
    · exact k0.2.2.2.trans hj
    · exact k1.1.trans hj
    · exact k1.2.1.trans hj
    · exact k1.2.2.1.trans hj
    · exact k1.2.2.2.trans hj
    · exact k2.1.trans hj
    · exact k2.2.1.trans hj
    · exact k2.2.2.1.trans hj
    · exact k2.2.2.2.trans hj
    · exact k3.1.trans hj
    · exact k3.2.1.trans hj
    · exact k3.2.2.1.trans hj
    · exact k3.2.2.2.trans hj

theorem Tryd.cellsMark : Tryd.prog.cellsOf 23 = 4 := by kernel_rfl
def Mk.ok (m : Mk) : Prop := HInI m.k ∧ HInI m.l ∧ HInI m.c ∧ HInI m.e
set_option maxRecDepth 100000 in
theorem mark_in {H : Type} {enc : TypeId × Value → H} {W : World} {base : Nat} {v : Value} {d : DataW H} {p : List MemPlace} (h : DataW.Trod enc Tryd.prog W 0 (fun _ => true) true 23 v d p)
    (hv : Value.okWide Tryd.prog W .any base 23 v) : ∃ m : Mk, v = .agg (mkA m) ∧ m.ok ∧ ∀ (W' : World) (sp : Nat → Bool), DataW.Trod enc Tryd.prog W' 0 sp true 23 v d p := by
  obtain ⟨c0, c1, c2, c3, y0, y1, y2, y3, m, rfl, rfl, rfl, hy0, hy1, hy2, hy3⟩ := Go.Joins.open_agg4 Tryd.underlying23 (by kernel_rfl) Tryd.cellsMark hv h
  obtain ⟨a0, e0, rfl, w0⟩ := DataW.trod_int Tryd.underlying3 hy0
  obtain ⟨a1, e1, rfl, w1⟩ := DataW.trod_int Tryd.underlying3 hy1
  obtain ⟨a2, e2, rfl, w2⟩ := DataW.trod_int Tryd.underlying3 hy2
  obtain ⟨a3, e3, rfl, w3⟩ := DataW.trod_int Tryd.underlying3 hy3
  simp at e0 e1 e2 e3
  subst e0 e1 e2 e3
  refine ⟨⟨a0, a1, a2, a3⟩, rfl, ⟨hini_of_wf w0, hini_of_wf w1, hini_of_wf w2, hini_of_wf w3⟩, fun W' sp => ?_⟩
  exact Go.Joins.shut_agg4 (y0 := (.lit (.int .i64 a0), [])) (y1 := (.lit (.int .i64 a1), [])) (y2 := (.lit (.int .i64 a2), [])) (y3 := (.lit (.int .i64 a3), [])) Tryd.underlying23 (by kernel_rfl) Tryd.cellsMark ⟨1, by simp [DataW.trod, Tryd.underlying3, w0]⟩ ⟨1, by simp [DataW.trod, Tryd.underlying3, w1]⟩ ⟨1, by simp [DataW.trod, Tryd.underlying3, w2]⟩ ⟨1, by simp [DataW.trod, Tryd.underlying3, w3]⟩
end Go.Proofs.YtmikkbhillkpkaaDoor
