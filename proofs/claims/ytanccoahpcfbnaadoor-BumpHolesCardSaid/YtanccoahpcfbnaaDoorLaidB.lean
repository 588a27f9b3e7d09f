/-
  What the condition gives the walks of packages addr and bump; a cursor that came in, opened and read again.
-/
import Derived.Test.YtanccoahpcfbnaaDoorLaidA
import Derived.Test.YtanccoahpcfbnaaDoorRowKit
import Derived.Lib.SmallJoins
namespace Go.Proofs.YtanccoahpcfbnaaDoor
open Go.RowKit Go.ChangeShapes Go.WideShapes Go.ChangeAt Ad

/-- A number that an int holds. -/
def InI (f : Int) : Prop := -9223372036854775808 ≤ f ∧ f ≤ 9223372036854775807
theorem ini_of_wf {a : Int} (h : (Lit.int .i64 a).wf = true) : InI a := by
  simp [Lit.wf, IntKind.min, IntKind.max, IntKind.signed, IntKind.bits] at h
  exact ⟨by omega, by omega⟩
set_option maxRecDepth 100000 in
theorem av_of_laid {W : World} {L : List (String × DataW Unit)} (h : laidMet Tryd.prog L W)
    (hs : List.Sublist [("selion/addr.errAddr", Rows.laid_selion_addr_errAddr), ("selion/addr.errSize", Rows.laid_selion_addr_errSize), ("selion/addr.errRef", Rows.laid_selion_addr_errRef), ("selion/addr.worth", Rows.laid_selion_addr_worth)] L) : ∃ aA aS aR, AV W aA aS aR := by
  replace h := laidMet_sub hs h
  have gA : Tryd.prog.globalNamed "selion/addr.errAddr" = some 1 := by kernel_rfl
  have gS : Tryd.prog.globalNamed "selion/addr.errSize" = some 0 := by kernel_rfl
  have gR : Tryd.prog.globalNamed "selion/addr.errRef" = some 2 := by kernel_rfl
  have gZ : Tryd.prog.globalNamed "selion/addr.worth" = some 3 := by kernel_rfl
  have tA : (Tryd.prog.globals[1]?).map (·.type) = some 63 := by kernel_rfl
  have tS : (Tryd.prog.globals[0]?).map (·.type) = some 63 := by kernel_rfl
  have tR : (Tryd.prog.globals[2]?).map (·.type) = some 63 := by kernel_rfl
  have tZ : (Tryd.prog.globals[3]?).map (·.type) = some 88 := by kernel_rfl
  obtain ⟨a0, a1, s0, s1, n01⟩ := sents2 h (L := _) (by exact (List.Sublist.cons_cons _ (List.Sublist.cons_cons _ (List.nil_sublist _)))) gA tA gS tS
  obtain ⟨b0, b2, r0, r2, n02⟩ := sents2 h (L := _) (by exact (List.Sublist.cons_cons _ (List.Sublist.cons _ (List.Sublist.cons_cons _ (List.nil_sublist _))))) gA tA gR tR
  obtain ⟨c1, c2, q1, q2, n12⟩ := sents2 h (L := _) (by exact (List.Sublist.cons _ (List.Sublist.cons_cons _ (List.Sublist.cons_cons _ (List.nil_sublist _))))) gS tS gR tR
  obtain rfl := s0.eq r0
  obtain rfl := s1.eq q1
  obtain rfl := r2.eq q2
  have hz := fun i hi => tab1 (zs := [4096, 128, 1]) h (by exact (List.Sublist.cons _ (List.Sublist.cons _ (List.Sublist.cons _ (List.Sublist.cons_cons _ (List.nil_sublist _)))))) gZ tZ Tryd.underlying88 (by kernel_rfl) i hi
  exact ⟨a0, a1, b2, { cA := s0, cS := s1, cR := r2, nAS := n01, nAR := n02, nSR := n12, w0 := hz 0 (by decide), w1 := hz 1 (by decide), w2 := hz 2 (by decide) }⟩

theorem Tryd.cellsCur : Tryd.prog.cellsOf 23 = 3 := by kernel_rfl
set_option maxRecDepth 100000 in
theorem cur_in {H : Type} {enc : TypeId × Value → H} {W : World} {base : Nat} {v : Value} {d : DataW H} {p : List MemPlace} (h : DataW.Trod enc Tryd.prog W 0 (fun _ => true) true 23 v d p)
    (hv : Value.okWide Tryd.prog W .any base 23 v) : ∃ B A L : Int, v = .agg #[.int .i64 B, .int .i64 A, .int .i64 L] ∧ InI B ∧ InI A ∧ InI L ∧ ∀ (W' : World) (sp : Nat → Bool), DataW.Trod enc Tryd.prog W' 0 sp true 23 v d p := by
  obtain ⟨c0, c1, c2, y0, y1, y2, m, rfl, rfl, rfl, hy0, hy1, hy2⟩ := Go.Joins.open_agg3 Tryd.underlying23 (by kernel_rfl) Tryd.cellsCur hv h
  obtain ⟨a0, e0, rfl, w0⟩ := DataW.trod_int Tryd.underlying3 hy0
  obtain ⟨a1, e1, rfl, w1⟩ := DataW.trod_int Tryd.underlying3 hy1
  obtain ⟨a2, e2, rfl, w2⟩ := DataW.trod_int Tryd.underlying3 hy2
  simp at e0 e1 e2
  subst e0 e1 e2
  refine ⟨a0, a1, a2, rfl, ini_of_wf w0, ini_of_wf w1, ini_of_wf w2, fun W' sp => ?_⟩
  exact Go.Joins.shut_agg3 (y0 := (.lit (.int .i64 a0), [])) (y1 := (.lit (.int .i64 a1), [])) (y2 := (.lit (.int .i64 a2), [])) Tryd.underlying23 (by kernel_rfl) Tryd.cellsCur ⟨1, by simp [DataW.trod, Tryd.underlying3, w0]⟩ ⟨1, by simp [DataW.trod, Tryd.underlying3, w1]⟩ ⟨1, by simp [DataW.trod, Tryd.underlying3, w2]⟩
end Go.Proofs.YtanccoahpcfbnaaDoor
