/-
  What the condition gives the walks of packages addr and marks.
-/
import Derived.Test.YtgjhdjfjfmbejaaDoorLaidA
import Derived.Test.YtgjhdjfjfmbejaaDoorMarkA
namespace Go.Proofs.YtgjhdjfjfmbejaaDoor
open Go.RowKit Go.ChangeShapes Go.WideShapes Go.ChangeAt Ad

set_option maxRecDepth 100000 in
theorem mv_of_laid {W : World} {L : List (String × DataW Unit)} (h : laidMet Tryd.prog L W)
    (hs : List.Sublist [("selion/addr.errAddr", Rows.laid_selion_addr_errAddr), ("selion/addr.errSize", Rows.laid_selion_addr_errSize), ("selion/addr.errRef", Rows.laid_selion_addr_errRef), ("selion/addr.sizes", Rows.laid_selion_addr_sizes), ("selion/marks.errSize", Rows.laid_selion_marks_errSize), ("selion/marks.errTable", Rows.laid_selion_marks_errTable)] L) : ∃ V, MV W V := by
  replace h := laidMet_sub hs h
  have gA : Tryd.prog.globalNamed "selion/addr.errAddr" = some 1 := by kernel_rfl
  have gS : Tryd.prog.globalNamed "selion/addr.errSize" = some 3 := by kernel_rfl
  have gR : Tryd.prog.globalNamed "selion/addr.errRef" = some 4 := by kernel_rfl
  have gZ : Tryd.prog.globalNamed "selion/addr.sizes" = some 5 := by kernel_rfl
  have gMS : Tryd.prog.globalNamed "selion/marks.errSize" = some 2 := by kernel_rfl
  have gMT : Tryd.prog.globalNamed "selion/marks.errTable" = some 0 := by kernel_rfl
  have tA : (Tryd.prog.globals[1]?).map (·.type) = some 46 := by kernel_rfl
  have tS : (Tryd.prog.globals[3]?).map (·.type) = some 46 := by kernel_rfl
  have tR : (Tryd.prog.globals[4]?).map (·.type) = some 46 := by kernel_rfl
  have tMS : (Tryd.prog.globals[2]?).map (·.type) = some 46 := by kernel_rfl
  have tMT : (Tryd.prog.globals[0]?).map (·.type) = some 46 := by kernel_rfl
  have tZ : (Tryd.prog.globals[5]?).map (·.type) = some 112 := by kernel_rfl
  obtain ⟨a0, a1, s0, s1, n01⟩ := sents2 h (L := _) (by exact (List.Sublist.cons_cons _ (List.Sublist.cons_cons _ (List.nil_sublist _)))) gA tA gS tS
  obtain ⟨b0, b2, r0, r2, n02⟩ := sents2 h (L := _) (by exact (List.Sublist.cons_cons _ (List.Sublist.cons _ (List.Sublist.cons_cons _ (List.nil_sublist _))))) gA tA gR tR
  obtain ⟨c1, c2, q1, q2, n12⟩ := sents2 h (L := _) (by exact (List.Sublist.cons _ (List.Sublist.cons_cons _ (List.Sublist.cons_cons _ (List.nil_sublist _))))) gS tS gR tR
  obtain ⟨d1, d2, m1, m2, nm⟩ := sents2 h (L := _) (by exact (List.Sublist.cons _ (List.Sublist.cons _ (List.Sublist.cons _ (List.Sublist.cons _ (List.Sublist.cons_cons _ (List.Sublist.cons_cons _ (List.nil_sublist _)))))))) gMS tMS gMT tMT
  obtain rfl := s0.eq r0
  obtain rfl := s1.eq q1
  obtain rfl := r2.eq q2
  obtain ⟨ps, ⟨g4, t4, cs, fuel, p, q, hg4, ht4, hv4, hd4, _, _⟩, _, _⟩ := laidMet_sub (L' := [("selion/addr.sizes", Rows.laid_selion_addr_sizes)]) (by exact (List.Sublist.cons _ (List.Sublist.cons _ (List.Sublist.cons _ (List.Sublist.cons_cons _ (List.nil_sublist _)))))) h
  obtain rfl := Option.some.inj (gZ.symm.trans hg4)
  obtain rfl := Option.some.inj (tZ.symm.trans ht4)
  have hcell := fun i => World.var?_cell hg4 hv4 i
  obtain ⟨xs, m, _, hx, hl, hn, hel⟩ := DataW.trod_array Tryd.underlying112 hd4
  have c47 : Tryd.prog.cellsOf 100 = 2 := by kernel_rfl
  match xs, hn, hx with
  | [x0, x1, x2], _, hx =>
    simp only [Rows.laid_selion_addr_sizes, List.map_cons, List.map_nil, Prod.mk.injEq, DataW.agg.injEq, List.cons.injEq] at hx
    obtain ⟨⟨y0, y1, y2, _⟩, _⟩ := hx
    have h0 := hel 0 (by decide)
    have h1 := hel 1 (by decide)
    have h2 := hel 2 (by decide)
    obtain ⟨x0a, x0b⟩ := x0
    obtain ⟨x1a, x1b⟩ := x1
    obtain ⟨x2a, x2b⟩ := x2
    simp only at y0 y1 y2
    subst y0 y1 y2
    have k0 := pair_cells Tryd.underlying100 rfl rfl rfl rfl h0
    have k1 := pair_cells Tryd.underlying100 rfl rfl rfl rfl h1
    have k2 := pair_cells Tryd.underlying100 rfl rfl rfl rfl h2
    rw [c47] at k0 k1 k2
    simp [List.getElem?_drop] at k0 k1 k2
    exact ⟨⟨a0, a1, b2, d1, d2⟩, ⟨{ cA := s0, cS := s1, cR := r2, nAS := n01, nAR := n02, nSR := n12, s0 := (hcell 0).trans k0.1, s1 := (hcell 1).trans k0.2, s2 := (hcell 2).trans k1.1, s3 := (hcell 3).trans k1.2, s4 := (hcell 4).trans k2.1, s5 := (hcell 5).trans k2.2 }, m1, m2, nm⟩⟩
end Go.Proofs.YtgjhdjfjfmbejaaDoor
