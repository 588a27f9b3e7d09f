/-
  From the condition that the listed variables read as listed to what the walks ask of package addr's variables.
-/
import Derived.Test.YtllippnkijkjlaaDoorAddrA
import Derived.Test.YtllippnkijkjlaaDoorRows
import Derived.ProofKit
import Derived.LaidMore
import Derived.OpenShut
import Derived.Stop.Joined
import Derived.Stop.LaidTwo
import Derived.Lib.LaidTab
namespace Go.Proofs.YtllippnkijkjlaaDoor
open Go.RowKit Go.ChangeShapes Go.WideShapes Go.ChangeAt

theorem laidVars_sub {P : Program} {w : World} {L L' : List (String × DataW Unit)} (h : L'.Sublist L) : ∀ ps, DataW.LaidVars P w L ps → ∃ ps', DataW.LaidVars P w L' ps' ∧ ps'.Sublist ps := by
  induction h with
  | slnil => exact fun ps h => ⟨ps, h, List.Sublist.refl _⟩
  | cons x _ ih =>
    rintro ps ⟨g, t, cs, fuel, p, q, _, _, _, _, hq, rfl⟩
    obtain ⟨ps', h1, h2⟩ := ih q hq
    exact ⟨ps', h1, h2.trans (List.sublist_append_right _ _)⟩
  | cons_cons x _ ih =>
    rintro ps ⟨g, t, cs, fuel, p, q, e1, e2, e3, e4, hq, rfl⟩
    obtain ⟨ps', h1, h2⟩ := ih q hq
    exact ⟨_, ⟨g, t, cs, fuel, p, ps', e1, e2, e3, e4, h1, rfl⟩, List.Sublist.append (List.Sublist.refl _) h2⟩
theorem laidMet_sub {P : Program} {w : World} {L L' : List (String × DataW Unit)} (hs : L'.Sublist L) (h : laidMet P L w) : laidMet P L' w := by
  obtain ⟨ps, hv, hnd, hrows⟩ := h
  obtain ⟨ps', h1, h2⟩ := laidVars_sub hs ps hv
  exact ⟨ps', h1, hnd.sublist h2, fun b off hm => hrows b off (h2.subset hm)⟩

theorem Tryd.cellsErr : Tryd.prog.cellsOf 95 = 1 := by kernel_rfl
theorem Tryd.cellsStr : Tryd.prog.cellsOf 9 = 1 := by kernel_rfl
theorem Tryd.star : "*" ++ "errors.errorString" = "*errors.errorString" := by decide
theorem Tryd.rowErr (u : TypeId) (h : Tryd.prog.typeName? 3 u = some "*errors.errorString") : u = 69 :=
  typeName_ptr_named (nm := "errors.errorString") (by rw [Tryd.star]; kernel_rfl) (by kernel_rfl) (by decide) u (by rw [Tryd.star]; exact h)

/-- Two listed sentinels: where they lie, and that they are two. -/
theorem sents2 {n0 n1 : String} {t0 t1 : List UInt8} {L : List (String × DataW Unit)} {W : World} {g0 g1 : Nat} (h : laidMet Tryd.prog L W)
    (hs : List.Sublist [(n0, .iface "*errors.errorString" (.ptr (.agg [.lit (.string t0)]))), (n1, .iface "*errors.errorString" (.ptr (.agg [.lit (.string t1)])))] L)
    (hg0 : Tryd.prog.globalNamed n0 = some g0) (ht0 : (Tryd.prog.globals[g0]?).map (·.type) = some 39) (hg1 : Tryd.prog.globalNamed n1 = some g1) (ht1 : (Tryd.prog.globals[g1]?).map (·.type) = some 39) :
    ∃ a0 a1, Sent W g0 a0 ∧ Sent W g1 a1 ∧ a0 ≠ a1 := by
  obtain ⟨a0, a1, s0, s1, c0, c1, u0, u1, hv0, hv1, _, _, _, _, _, _, hne, hb0, hb1⟩ := laid_sentinels2 (laidMet_sub hs h) hg0 ht0 hg1 ht1 Tryd.underlying39 Tryd.rowErr Tryd.underlying69 Tryd.underlying95 rfl rfl Tryd.underlying9 Tryd.cellsErr Tryd.cellsStr
  exact ⟨a0, a1, ⟨by simpa using World.var?_cell hg0 hv0 0, c0, u0, hb0⟩, ⟨by simpa using World.var?_cell hg1 hv1 0, c1, u1, hb1⟩, hne⟩
theorem Sent.eq {W : World} {g : Nat} {a b : Addr} (h : Sent W g a) (k : Sent W g b) : a = b := by
  have := h.1.symm.trans k.1
  simpa using this

/-- A listed table of integers: its cells. -/
theorem tab1 {n : String} {zs : List Int} {L : List (String × DataW Unit)} {W : World} {g m : Nat} {t : TypeId} (h : laidMet Tryd.prog L W) (hs : List.Sublist [(n, Lib.tabData .i64 zs)] L)
    (hg : Tryd.prog.globalNamed n = some g) (ht : (Tryd.prog.globals[g]?).map (·.type) = some t) (hu : Tryd.prog.underlying t = some (.array m 3)) (hc : Tryd.prog.cellsOf t = m) (i : Nat) (hi : i < zs.length) :
    W.cell? ⟨g, i, none⟩ = some (.int .i64 (zs.getD i 0)) := by
  have hT := Lib.tabIs_of_head hg ht hu Tryd.underlying3 (by kernel_rfl) hc (laidMet_sub hs h)
  have := World.var?_cell hg hT i
  rw [this]
  simp [hi]

/-- Cells that read as a struct of two ints hold them. -/
theorem pair_cells {W : World} {fuel : Nat} {t : TypeId} {f0 f1 : Field} {cs : List Value} {a b : Int} {p : List MemPlace} (hu : Tryd.prog.underlying t = some (.struct #[f0, f1]))
    (e0 : f0.type = 3) (o0 : f0.offset = 0) (e1 : f1.type = 3) (o1 : f1.offset = 1)
    (h : DataW.trod (fun _ => ()) Tryd.prog W 0 (fun _ => true) false fuel t cs = some (.agg [.lit (.int .i64 a), .lit (.int .i64 b)], p)) : cs[0]? = some (.int .i64 a) ∧ cs[1]? = some (.int .i64 b) := by
  obtain ⟨y0, y1, n, hx, hl, h0, h1⟩ := trod_struct2 hu h
  have c3 : Tryd.prog.cellsOf 3 = 1 := by kernel_rfl
  rw [e0, o0, c3] at h0
  rw [e1, o1, c3] at h1
  obtain ⟨k0, q0, rfl, _⟩ := DataW.trod_int Tryd.underlying3 h0
  obtain ⟨k1, q1, rfl, _⟩ := DataW.trod_int Tryd.underlying3 h1
  simp at hx
  obtain ⟨⟨rfl, rfl⟩, _⟩ := hx
  have z0 := congrArg (·[0]?) q0
  have z1 := congrArg (·[0]?) q1
  simp at z0 z1
  exact ⟨z0, z1⟩

/-- What the condition gives the walks of package addr. -/
theorem av_of_laid {W : World} {L : List (String × DataW Unit)} (h : laidMet Tryd.prog L W)
    (hs : List.Sublist [("selion/addr.errAddr", Rows.laid_selion_addr_errAddr), ("selion/addr.errSize", Rows.laid_selion_addr_errSize), ("selion/addr.errRef", Rows.laid_selion_addr_errRef), ("selion/addr.worth", Rows.laid_selion_addr_worth), ("selion/addr.sizes", Rows.laid_selion_addr_sizes)] L) : ∃ aA aS aR, AV W aA aS aR := by
  replace h := laidMet_sub hs h
  have gA : Tryd.prog.globalNamed "selion/addr.errAddr" = some 0 := by kernel_rfl
  have gS : Tryd.prog.globalNamed "selion/addr.errSize" = some 2 := by kernel_rfl
  have gR : Tryd.prog.globalNamed "selion/addr.errRef" = some 3 := by kernel_rfl
  have gW : Tryd.prog.globalNamed "selion/addr.worth" = some 1 := by kernel_rfl
  have gZ : Tryd.prog.globalNamed "selion/addr.sizes" = some 4 := by kernel_rfl
  have tA : (Tryd.prog.globals[0]?).map (·.type) = some 39 := by kernel_rfl
  have tS : (Tryd.prog.globals[2]?).map (·.type) = some 39 := by kernel_rfl
  have tR : (Tryd.prog.globals[3]?).map (·.type) = some 39 := by kernel_rfl
  have tW : (Tryd.prog.globals[1]?).map (·.type) = some 40 := by kernel_rfl
  have tZ : (Tryd.prog.globals[4]?).map (·.type) = some 54 := by kernel_rfl
  obtain ⟨a0, a1, s0, s1, n01⟩ := sents2 h (L := _) (by exact (List.Sublist.cons_cons _ (List.Sublist.cons_cons _ (List.nil_sublist _)))) gA tA gS tS
  obtain ⟨b0, b2, r0, r2, n02⟩ := sents2 h (L := _) (by exact (List.Sublist.cons_cons _ (List.Sublist.cons _ (List.Sublist.cons_cons _ (List.nil_sublist _))))) gA tA gR tR
  obtain ⟨c1, c2, q1, q2, n12⟩ := sents2 h (L := _) (by exact (List.Sublist.cons _ (List.Sublist.cons_cons _ (List.Sublist.cons_cons _ (List.nil_sublist _))))) gS tS gR tR
  obtain rfl := s0.eq r0
  obtain rfl := s1.eq q1
  obtain rfl := r2.eq q2
  have hw := fun i hi => tab1 (n := "selion/addr.worth") (zs := [4096, 128, 1]) h (by exact (List.Sublist.cons _ (List.Sublist.cons _ (List.Sublist.cons _ (List.Sublist.cons_cons _ (List.nil_sublist _)))))) gW tW Tryd.underlying40 (by kernel_rfl) i hi
  obtain ⟨ps, ⟨g4, t4, cs, fuel, p, q, hg4, ht4, hv4, hd4, _, _⟩, _, _⟩ := laidMet_sub (L' := [("selion/addr.sizes", Rows.laid_selion_addr_sizes)]) (by exact (List.Sublist.cons _ (List.Sublist.cons _ (List.Sublist.cons _ (List.Sublist.cons _ (List.Sublist.refl _)))))) h
  obtain rfl := Option.some.inj (gZ.symm.trans hg4)
  obtain rfl := Option.some.inj (tZ.symm.trans ht4)
  have hcell := fun i => World.var?_cell hg4 hv4 i
  obtain ⟨xs, m, _, hx, hl, hn, hel⟩ := DataW.trod_array Tryd.underlying54 hd4
  have c47 : Tryd.prog.cellsOf 47 = 2 := by kernel_rfl
  match xs, hn, hx with
  | [x0, x1, x2], _, hx =>
    simp only [Rows.laid_selion_addr_sizes, List.map_cons, List.map_nil, Prod.mk.injEq, DataW.agg.injEq, List.cons.injEq] at hx
    obtain ⟨⟨y0, y1, y2, _⟩, _⟩ := hx
    have h0 := hel 0 (by decide)
    have h1 := hel 1 (by decide)
    have h2 := hel 2 (by decide)
    obtain ⟨x0a, x0b⟩ := x0
    obtain ⟨x1a, x1b⟩ := x1
    obtain ⟨x2a, x2b⟩ := x2
    simp only at y0 y1 y2
    subst y0 y1 y2
    have k0 := pair_cells Tryd.underlying47 rfl rfl rfl rfl h0
    have k1 := pair_cells Tryd.underlying47 rfl rfl rfl rfl h1
    have k2 := pair_cells Tryd.underlying47 rfl rfl rfl rfl h2
    rw [c47] at k0 k1 k2
    simp [List.getElem?_drop] at k0 k1 k2
    exact ⟨a0, a1, b2, ⟨s0, s1, r2, n01, n02, n12, hw 0 (by simp), hw 1 (by simp), hw 2 (by simp), (hcell 0).trans k0.1, (hcell 1).trans k0.2, (hcell 2).trans k1.1, (hcell 3).trans k1.2, (hcell 4).trans k2.1, (hcell 5).trans k2.2⟩⟩
end Go.Proofs.YtllippnkijkjlaaDoor
