/-
  What the condition gives the walks of packages addr and arena.
-/
import Derived.Test.YtmikkbhillkpkaaDoorLaidA
import Derived.Test.YtmikkbhillkpkaaDoorArC
namespace Go.Proofs.YtmikkbhillkpkaaDoor
open Go.RowKit Go.ChangeShapes Go.WideShapes Go.ChangeAt Ad

theorem ini_of_wf {a : Int} (h : (Lit.int .i64 a).wf = true) : InI a := by
  simp [Lit.wf, IntKind.min, IntKind.max, IntKind.signed, IntKind.bits] at h
  exact ⟨by omega, by omega⟩
set_option maxRecDepth 100000 in
theorem rv_of_laid {W : World} {L : List (String × DataW Unit)} (h : laidMet Tryd.prog L W)
    (hs : List.Sublist [("selion/addr.errAddr", Rows.laid_selion_addr_errAddr), ("selion/addr.errSize", Rows.laid_selion_addr_errSize), ("selion/addr.errRef", Rows.laid_selion_addr_errRef), ("selion/addr.worth", Rows.laid_selion_addr_worth), ("selion/arena.errNil", Rows.laid_selion_arena_errNil), ("selion/arena.errArg", Rows.laid_selion_arena_errArg), ("selion/arena.errAddr", Rows.laid_selion_arena_errAddr)] L) : ∃ V, RV W V := by
  replace h := laidMet_sub hs h
  have gA : Tryd.prog.globalNamed "selion/addr.errAddr" = some 6 := by kernel_rfl
  have gS : Tryd.prog.globalNamed "selion/addr.errSize" = some 8 := by kernel_rfl
  have gR : Tryd.prog.globalNamed "selion/addr.errRef" = some 9 := by kernel_rfl
  have gZ : Tryd.prog.globalNamed "selion/addr.worth" = some 5 := by kernel_rfl
  have gN : Tryd.prog.globalNamed "selion/arena.errNil" = some 7 := by kernel_rfl
  have gG : Tryd.prog.globalNamed "selion/arena.errArg" = some 1 := by kernel_rfl
  have gB : Tryd.prog.globalNamed "selion/arena.errAddr" = some 10 := by kernel_rfl
  have tA : (Tryd.prog.globals[6]?).map (·.type) = some 57 := by kernel_rfl
  have tS : (Tryd.prog.globals[8]?).map (·.type) = some 57 := by kernel_rfl
  have tR : (Tryd.prog.globals[9]?).map (·.type) = some 57 := by kernel_rfl
  have tN : (Tryd.prog.globals[7]?).map (·.type) = some 57 := by kernel_rfl
  have tG : (Tryd.prog.globals[1]?).map (·.type) = some 57 := by kernel_rfl
  have tB : (Tryd.prog.globals[10]?).map (·.type) = some 57 := by kernel_rfl
  have tZ : (Tryd.prog.globals[5]?).map (·.type) = some 92 := by kernel_rfl
  obtain ⟨a0, a1, s0, s1, n01⟩ := sents2 h (L := _) (by exact (List.Sublist.cons_cons _ (List.Sublist.cons_cons _ (List.nil_sublist _)))) gA tA gS tS
  obtain ⟨b0, b2, r0, r2, n02⟩ := sents2 h (L := _) (by exact (List.Sublist.cons_cons _ (List.Sublist.cons _ (List.Sublist.cons_cons _ (List.nil_sublist _))))) gA tA gR tR
  obtain ⟨c1, c2, q1, q2, n12⟩ := sents2 h (L := _) (by exact (List.Sublist.cons _ (List.Sublist.cons_cons _ (List.Sublist.cons_cons _ (List.nil_sublist _))))) gS tS gR tR
  obtain ⟨d0, d1, m0, m1, k01⟩ := sents2 h (L := _) (by exact (List.Sublist.cons _ (List.Sublist.cons _ (List.Sublist.cons _ (List.Sublist.cons _ (List.Sublist.cons_cons _ (List.Sublist.cons_cons _ (List.nil_sublist _)))))))) gN tN gG tG
  obtain ⟨e0, e2, l0, l2, k02⟩ := sents2 h (L := _) (by exact (List.Sublist.cons _ (List.Sublist.cons _ (List.Sublist.cons _ (List.Sublist.cons _ (List.Sublist.cons_cons _ (List.Sublist.cons _ (List.Sublist.cons_cons _ (List.nil_sublist _))))))))) gN tN gB tB
  obtain ⟨f1, f2, o1, o2, k12⟩ := sents2 h (L := _) (by exact (List.Sublist.cons _ (List.Sublist.cons _ (List.Sublist.cons _ (List.Sublist.cons _ (List.Sublist.cons _ (List.Sublist.cons_cons _ (List.Sublist.cons_cons _ (List.nil_sublist _))))))))) gG tG gB tB
  obtain rfl := s0.eq r0
  obtain rfl := s1.eq q1
  obtain rfl := r2.eq q2
  obtain rfl := m0.eq l0
  obtain rfl := m1.eq o1
  obtain rfl := l2.eq o2
  have hz := fun i hi => tab1 (zs := [4096, 128, 1]) h (by exact (List.Sublist.cons _ (List.Sublist.cons _ (List.Sublist.cons _ (List.Sublist.cons_cons _ (List.nil_sublist _)))))) gZ tZ Tryd.underlying92 (by kernel_rfl) i hi
  exact ⟨⟨a0, a1, b2, d0, d1, e2⟩, ⟨{ cA := s0, cS := s1, cR := r2, nAS := n01, nAR := n02, nSR := n12, w0 := hz 0 (by decide), w1 := hz 1 (by decide), w2 := hz 2 (by decide) }, m0, m1, l2, k01, k02, k12⟩⟩
end Go.Proofs.YtmikkbhillkpkaaDoor
