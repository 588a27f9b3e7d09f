/-
  head.Encode, of a right head.
-/
import Derived.Test.YtmikkbhillkpkaaDoorHdF
namespace Go.Proofs.YtmikkbhillkpkaaDoor
open Go.RowKit Go.Lib Go.Shelf
attribute [local go_sem] Oper.semAt_some
set_option linter.unusedSimpArgs false
set_option linter.unusedVariables false

def zeros8 : Array Value := #[.int .u8 0, .int .u8 0, .int .u8 0, .int .u8 0, .int .u8 0, .int .u8 0, .int .u8 0, .int .u8 0]
theorem mk8 (W : World) : (Instr.makeSlice 34 (.int .i64 0) (.int .i64 8)).run Tryd.prog W = .ok (.slice (some ⟨W.heap.size, 0, none⟩) 0 8) (W.alloc (.cells zeros8 5)) := by kernel_rfl
theorem rightB_in {K L C E : Nat} (hK : 1 ≤ K ∧ K ≤ 60) (hL : L ≤ 40000) (hC : 1 ≤ C ∧ C ≤ 3) (hE : E ≤ 255) : rightB (mkN K L C E) = true := by
  simp [rightB, inFld]
  omega
theorem take_add (l : List UInt8) (j : Nat) (b : UInt8) (h : l[j]? = some b) : l.take (j + 1) = l.take j ++ [b] := by
  obtain ⟨h1, h2⟩ := List.getElem?_eq_some_iff.1 h
  rw [List.take_succ_eq_append_getElem h1, h2]
theorem cell_one_new (W : World) (x : Value) (t : TypeId) : ∀ j u, [x][j]? = some u → (W.alloc (.cells #[x] t)).cell? ((⟨W.heap.size, 0, none⟩ : Addr).add j) = some u := by
  intro j u hj
  match j, hj with
  | 0, hj => simp at hj; subst hj; exact (Blk.new W #[x] t).cell rfl

set_option maxRecDepth 100000 in
set_option maxHeartbeats 4000000 in
theorem henc_yes (K L C E : Nat) (hK : 1 ≤ K ∧ K ≤ 60) (hL : L ≤ 40000) (hC : 1 ≤ C ∧ C ≤ 3) (hE : E ≤ 255) (w : World) (V : HR) (hV : HV w V) : Calls Tryd.prog 10 #[.agg (mkA (mkN K L C E))] w fun e w' => e = .returned (.tuple #[.string ⟨(hd8 K L C E).toArray⟩, .int .i64 0]) ∧ Below w.heap.size w w' := by
  obtain ⟨i0, hinf, hz0, hz1, hz2⟩ := info_parts Tryd.infoU8
  obtain ⟨b0, hB0, hs0⟩ := blk1 w (mkA (mkN K L C E)) 23
  have hr := hright_any (mkN K L C E) _ V (hV.below hB0)
  rw [rightB_in hK hL hC hE] at hr
  have HR := Lib.hid hr
  have HB0 := Lib.hid hB0
  have HM := Lib.hid b0
  have HVV := Lib.hid hV
  have hmk := mk8
  clear hr hB0 b0 hs0 hV
  refine (callsIn_wide (n := 9)).1 ?_
  refine callsIn_of_wp_marks Tryd.func10 rfl trivial ?_ rfl
  simp only [Tryd.ntmps10, List.size_toArray, List.length_cons, List.length_nil, Nat.reduceAdd, Nat.reduceSub, Array.replicate_succ, Array.replicate_zero, List.push_toArray, List.append_toArray, List.nil_append, List.cons_append]
  refine wpIn_wide.2 ?_
  dsimp only [mkA, mkN] at HR HB0 HM ⊢
  go_wp2_with fail
  ((with_reducible refine HR.out.mono ?_))
  rintro e w1 ⟨rfl, hb⟩
  have hB1 := bstep HB0.out hb
  have bM := HM.out.below' hb
  have m0 : w1.cell? ⟨w.heap.size, 0, none⟩ = some (.int .i64 (K : Int)) := bM.cell rfl
  have m1 : w1.cell? ⟨w.heap.size, 1, none⟩ = some (.int .i64 (L : Int)) := bM.cell rfl
  have m2 : w1.cell? ⟨w.heap.size, 2, none⟩ = some (.int .i64 (C : Int)) := bM.cell rfl
  have m3 : w1.cell? ⟨w.heap.size, 3, none⟩ = some (.int .i64 (E : Int)) := bM.cell rfl
  have bml := bM.lt
  have HB1 := Lib.hid hB1
  clear hb hB1 bM HR HB0 HM
  go_wp2_with fail
  ((with_reducible refine (hbytes_any (mkN K L C E) _).mono ?_))
  rintro e w' ⟨rfl, rfl⟩
  go_wp2_with fail
  refine (wpIn_wide (n := 9)).1 ?_
  obtain ⟨b0, b1, b2, hB2, hsz⟩ := blk3 w1 zeros8 #[.slice (some ⟨w1.heap.size, 0, none⟩) 0 8] (mkA (mkN K L C E)) 5 34 61
  have o1 : (((w1.alloc (.cells zeros8 5)).alloc (.cells #[.slice (some ⟨w1.heap.size, 0, none⟩) 0 8] 34)).alloc (.cells (mkA (mkN K L C E)) 61)).ownsRow w.heap.size 5 1 (.slice (some ⟨w1.heap.size, 0, none⟩) 0 8) 0 [] :=
    ⟨rfl, .inr ⟨w1.heap.size, 8, zeros8, rfl, HB1.out.size, b0, by omega, by unfold maxLen; omega, rfl, rfl⟩⟩
  dsimp only [mkA, mkN] at b0 b1 b2 hB2 hsz o1 ⊢
  have hB3 := bstep HB1.out hB2
  generalize (((w1.alloc (.cells zeros8 5)).alloc (.cells #[.slice (some ⟨w1.heap.size, 0, none⟩) 0 8] 34)).alloc (.cells #[.int .i64 (K : Int), .int .i64 (L : Int), .int .i64 (C : Int), .int .i64 (E : Int)] 61)) = W1 at b0 b1 b2 hB3 hsz o1 ⊢
  refine range_direct (by omega) (gf := 44) (lb := #[.pointer (some ⟨w1.heap.size + 1 + 1, 0, none⟩)]) rfl (enters_of Tryd.func44 (by kernel_rfl) rfl) ?_
  intro fn r hr
  obtain ⟨s, hs1⟩ : ∃ s, W1.heap.size = s := ⟨_, rfl⟩
  have hbT := HB1.out.size
  have je0 : JE w W1.heap.size (w1.heap.size + 1) w1.heap.size (W1.heap.size + 1 + 1) (r .ready none) [] ((W1.alloc (.deferred (some []))).alloc (.loop (r .ready none))) :=
    ⟨LF.first w W1 hB3 _, (b1.alloc _).alloc _, (o1.alloc _).alloc _, by omega, by omega, by omega, by omega, by simp⟩
  have bC0 := (b2.alloc (.deferred (some []))).alloc (.loop (r .ready none))
  have hV0 := (HVV.out.below hB3).below (((Below.refl _ W1).alloc (Nat.le_refl _) (.deferred (some []))).alloc (by simp) (.loop (r .ready none)))
  have hzW : ((W1.alloc (.deferred (some []))).alloc (.loop (r .ready none))).heap.size = W1.heap.size + 1 + 1 := by simp
  generalize (W1.alloc (.deferred (some []))).alloc (.loop (r .ready none)) = W0 at je0 bC0 hV0 hzW ⊢
  rw [← hzW] at je0
  rw [hs1] at je0 hsz hzW ⊢
  have HR := Lib.hid hr
  have hss : w1.heap.size + 1 + 1 < s := by omega
  have HZW := Lib.hid hzW
  clear b0 b1 b2 hB2 hB3 hr hs1 hsz o1 m0 m1 m2 m3 bml hmk hzW
  refine (hbytes1 8 (by omega) (w1.heap.size + 1 + 1) (s + 1) K L C E hK.2 hL hC.2 hE W0 V hV0 bC0 (fun j W => JE w s (w1.heap.size + 1) w1.heap.size W0.heap.size (r .ready none) ((hd8 K L C E).take j) W) (fun W => False)
    (by rw [List.take_zero]; exact je0) (fun j W W' h hb => h.belowN hb) (fun W W' h _ => h.elim) ?_).mono ?_
  · intro j W hj je
    clear je0 bC0 hV0
    have hl8 : (hd8 K L C E).length = 8 := rfl
    obtain ⟨b, hb⟩ : ∃ b, (hd8 K L C E)[j]? = some b := ⟨_, List.getElem?_eq_getElem (by rw [hl8]; exact hj)⟩
    rw [show (hd8 K L C E).getD j 0 = b by simp [List.getD, hb], take_add _ _ _ hb]
    have hlj : ((hd8 K L C E).take j).length = j := by rw [List.length_take, hl8]; omega
    generalize (hd8 K L C E).take j = l at je hlj ⊢
    have hlt8 : l.length < 8 := by omega
    clear hlj
    refine yield_direct HR.out je.lf.lop rfl ?_
    have hlop := je.lf.lop
    have jB := je.put (r .busy none)
    have hkb := Kb.putObj W0.heap.size W (s + 1) (.loop (r .busy none)) je.hs
    have HLop := Lib.hid hlop
    have HKB := Lib.hid hkb
    have hszp : (W.putObj (s + 1) (.loop (r .busy none))).heap.size = W.heap.size := by simp
    have HSP := Lib.hid hszp
    clear hb hlop je hl8 hkb hszp
    gi_wp2
    refine ⟨HLop.out, ?_⟩
    generalize W.putObj (s + 1) (.loop (r .busy none)) = Wb at jB HKB HSP ⊢
    have cT : Wb.cell? ⟨w1.heap.size + 1, 0, none⟩ = some (.slice (some ⟨w1.heap.size, 0, none⟩) l.length 8) := jB.box.cell rfl
    have fT := jB.box.frozen 0
    have hTl := jB.box.lt
    have HJB := Lib.hid jB
    clear jB HLop
    gi_wp2_with (gi_at_builtin; refine wpListIn_append_fits _ rfl _ _ 34 rfl w.heap.size 5 i0 1 Tryd.underlying34 hinf hz1 w1.heap.size l.length 8 (byteCells l) rfl (HJB.out.row.alloc _) ⟨Wb.heap.size, 0, none⟩ 1 1 [.int .u8 (b.toNat : Int)] rfl rfl (cell_one_new _ _ _) (by simp [Value.oneCell']) (by omega) ?_; intro w2 hown2 hgrow2; have jA := HJB.out.app hown2 hgrow2; have bT2 := (HJB.out.box.alloc (.cells #[.int .u8 (b.toNat : Int)] 5)).grown hgrow2 (by intro e; simp at e); have cT2 : w2.cell? ⟨w1.heap.size + 1, 0, none⟩ = some (.slice (some ⟨w1.heap.size, 0, none⟩) l.length 8) := bT2.cell rfl; have fT2 := bT2.frozen 0; have HJA := Lib.hid jA; have HG2 := Lib.hid hgrow2.size; clear cT fT jA bT2 hown2 hgrow2)
    have h1 := HG2.out
    have h2 := HSP.out
    simp at h1
    exact ⟨HJA.out.1.lf.lop, true, rfl, HJA.out.1.put _, (HKB.out.trans HJA.out.2 (by omega)).trans (Kb.putObj _ _ _ _ HJA.out.1.hs) (by simp [World.setCell]; omega)⟩
  · rintro e W ⟨hv, je | hx⟩
    · refine ⟨hv, .ready, none, by decide, je.lf.lop, fun rr => ?_⟩
      have jP := je.put rr
      rw [show (hd8 K L C E).take 8 = hd8 K L C E from rfl] at jP
      have hst := run_str jP.row
      have hbx := jP.box
      rw [show (hd8 K L C E).length = 8 from rfl] at hst hbx
      have p0 : (W.putObj (s + 1) (.loop rr)).cell? ⟨w1.heap.size + 1, 0, none⟩ = some (.slice (some ⟨w1.heap.size, 0, none⟩) 8 8) := hbx.cell rfl
      have HJP := Lib.hid jP
      clear je0 bC0 hV0 je jP hbx
      generalize W.putObj (s + 1) (.loop rr) = W5 at p0 hst HJP ⊢
      generalize ht8 : hd8 K L C E = t8 at hst HJP
      have HT8 := Lib.hid ht8
      clear ht8
      gi_wp2
      go_wp2
      try rw [Exit.noGoto_ret]
      refine ⟨by simp, .inl ⟨_, _, rfl, run_takeDeferred HJP.out.lf.dfr, ?_⟩⟩
      exact ⟨_, results_tmp2 rfl _ _ _, by rw [HT8.out]; rfl, HJP.out.lf.low.trans (belowK_b (w := w) (Nat.le_refl _) _ s _ _ HJP.out.lf.hs HJP.out.lf.dfr rfl rfl)⟩
    · exact hx.elim
end Go.Proofs.YtmikkbhillkpkaaDoor
