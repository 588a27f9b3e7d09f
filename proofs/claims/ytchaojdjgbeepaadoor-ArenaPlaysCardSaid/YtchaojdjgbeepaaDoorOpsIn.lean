/-
  A list of calls that came in, opened and read again; a text; a word.
-/
import Derived.Test.YtchaojdjgbeepaaDoorArN
import Derived.Test.YtchaojdjgbeepaaDoorPostR
import Derived.Deep.Slices
import Derived.Deep.Fields
import Derived.ChangeMaps5
import Derived.DataShut
namespace Go.Proofs.YtchaojdjgbeepaaDoor
open Go.RowKit Go.ChangeShapes Go.WideShapes Go.ChangeAt

theorem inu_of_wf {a : Int} (h : (Lit.int .u32 a).wf = true) : 0 ≤ a ∧ a < 4294967296 := by
  simp [Lit.wf, IntKind.min, IntKind.max, IntKind.signed, IntKind.bits] at h
  exact ⟨by omega, by omega⟩
theorem ini_wf {a : Int} (h : (Lit.int .i64 a).wf = true) : InI a := by
  simp [Lit.wf, IntKind.min, IntKind.max, IntKind.signed, IntKind.bits] at h
  exact ⟨by omega, by omega⟩
set_option maxRecDepth 100000 in
theorem text_in {H : Type} {enc : TypeId × Value → H} {W : World} {base : Nat} {v : Value} {d : DataW H} {p : List MemPlace} (h : DataW.Trod enc Tryd.prog W 0 (fun _ => true) true 9 v d p)
    (hv : Value.okWide Tryd.prog W .any base 9 v) : ∃ s : ByteArray, v = .string s ∧ s.size ≤ maxLen ∧ ∀ (W' : World) (sp : Nat → Bool), DataW.Trod enc Tryd.prog W' 0 sp true 9 v d p := by
  obtain ⟨s, rfl, rfl, rfl, hs⟩ := Go.ChangeMaps.open_string Tryd.underlying9 hv h
  exact ⟨s, rfl, hs, fun W' sp => Go.ChangeMaps.shut_string Tryd.underlying9 hs⟩

theorem cells_below {W W' : World} {a : Addr} {n : Nat} {cs : List Value} (hc : W.cells? 0 a n = some cs) (hb : Below W.heap.size W W') : W'.cells? 0 a n = some cs := by
  obtain ⟨h0, h1, h2⟩ := World.cells?_some hc
  refine World.cells?_of_each h0 h1 fun i hi => ?_
  have hs : cs[i]? = some (cs[i]'(by omega)) := List.getElem?_eq_getElem _
  have h3 := h2 i hi
  rw [hs] at h3 ⊢
  exact cell_below h3 hb
set_option maxRecDepth 100000 in
/-- Cells that read as a call hold one. -/
theorem op_cells {H : Type} {enc : TypeId × Value → H} {W : World} {fuel : Nat} {cs : List Value} {x : DataW H × List MemPlace} (h : DataW.trod enc Tryd.prog W 0 (fun _ => true) true fuel 44 cs = some x) :
    ∃ y : OpD, y.ok ∧ y.s.size ≤ maxLen ∧ cs = (opv y).toList ∧ ∀ (W' : World) (sp : Nat → Bool), DataW.trod enc Tryd.prog W' 0 sp true 2 44 cs = some x := by
  obtain ⟨ys, n, _, hx, hl, hn, hf⟩ := DataW.trod_struct Tryd.underlying44 h
  have c5 : Tryd.prog.cellsOf 44 = 5 := by kernel_rfl
  have ci : Tryd.prog.cellsOf 3 = 1 := by kernel_rfl
  have cu : Tryd.prog.cellsOf 27 = 1 := by kernel_rfl
  have ct : Tryd.prog.cellsOf 9 = 1 := by kernel_rfl
  rw [c5] at hl
  match cs, hl with
  | [v0, v1, v2, v3, v4], _ =>
    match ys, hn with
    | [y0, y1, y2, y3, y4], _ =>
      have h0 : DataW.trod enc Tryd.prog W 0 (fun _ => true) true n 3 (List.take (Tryd.prog.cellsOf 3) (List.drop 0 [v0, v1, v2, v3, v4])) = some y0 := hf 0 _ rfl
      have h1 : DataW.trod enc Tryd.prog W 0 (fun _ => true) true n 3 (List.take (Tryd.prog.cellsOf 3) (List.drop 1 [v0, v1, v2, v3, v4])) = some y1 := hf 1 _ rfl
      have h2 : DataW.trod enc Tryd.prog W 0 (fun _ => true) true n 3 (List.take (Tryd.prog.cellsOf 3) (List.drop 2 [v0, v1, v2, v3, v4])) = some y2 := hf 2 _ rfl
      have h3 : DataW.trod enc Tryd.prog W 0 (fun _ => true) true n 27 (List.take (Tryd.prog.cellsOf 27) (List.drop 3 [v0, v1, v2, v3, v4])) = some y3 := hf 3 _ rfl
      have h4 : DataW.trod enc Tryd.prog W 0 (fun _ => true) true n 9 (List.take (Tryd.prog.cellsOf 9) (List.drop 4 [v0, v1, v2, v3, v4])) = some y4 := hf 4 _ rfl
      rw [ci] at h0 h1 h2
      rw [cu] at h3
      rw [ct] at h4
      obtain ⟨z0, e0, rfl, w0⟩ := DataW.trod_int Tryd.underlying3 h0
      obtain ⟨z1, e1, rfl, w1⟩ := DataW.trod_int Tryd.underlying3 h1
      obtain ⟨z2, e2, rfl, w2⟩ := DataW.trod_int Tryd.underlying3 h2
      obtain ⟨z3, e3, rfl, w3⟩ := DataW.trod_int Tryd.underlying27 h3
      obtain ⟨s4, e4, rfl, w4⟩ := DataW.trod_string Tryd.underlying9 h4
      simp at e0 e1 e2 e3 e4
      subst e0 e1 e2 e3 e4 hx
      obtain ⟨k0, k1⟩ := inu_of_wf w3
      obtain ⟨v, rfl⟩ : ∃ v : Nat, z3 = v := ⟨z3.toNat, by omega⟩
      refine ⟨⟨z0, z1, z2, v, s4⟩, ⟨ini_wf w1, ini_wf w2, by show v < _; omega⟩, w4, rfl, fun W' sp => ?_⟩
      simp [DataW.trod, Tryd.underlying44, Tryd.underlying3, Tryd.underlying27, Tryd.underlying9, c5, ci, cu, ct, w0, w1, w2, w3, w4]

set_option maxRecDepth 100000 in
theorem ops_in {H : Type} {enc : TypeId × Value → H} {W : World} {base : Nat} {v : Value} {d : DataW H} {p : List MemPlace} (h : DataW.Trod enc Tryd.prog W 0 (fun _ => true) true 34 v d p)
    (hv : Value.okWide Tryd.prog W .any base 34 v) : ∃ q n cap, v = .slice q n cap ∧ n ≤ cap ∧ cap ≤ maxLen ∧ (∃ xs, OL W q xs ∧ xs.length = n) ∧
      ∀ (W' : World) (sp : Nat → Bool), Below W.heap.size W W' → (∀ m ∈ p, sp m.block = true) → DataW.Trod enc Tryd.prog W' 0 sp true 34 v d p := by
  obtain ⟨a0, len, cap, rfl⟩ := okWide_slice Tryd.underlying34 hv
  obtain ⟨fuel, hf⟩ := h
  have c5 : Tryd.prog.cellsOf 44 = 5 := by kernel_rfl
  rcases Go.Deep.open_slice Tryd.underlying34 hf with ⟨hcs, hx⟩ | ⟨a, len', cap', m, n, D, Pl, hcs, _, hl, hm, hmm, hx, hel⟩
  · simp [Value.cells] at hcs
    obtain ⟨rfl, rfl, rfl⟩ := hcs
    simp only [Prod.mk.injEq] at hx
    obtain ⟨rfl, rfl⟩ := hx
    exact ⟨none, 0, 0, rfl, Nat.le_refl _, by unfold maxLen; omega, ⟨[], fun i x hx => by simp at hx, rfl⟩, fun W' sp _ _ => ⟨2, by simp [DataW.trod, Tryd.underlying34, Value.cells]⟩⟩
  · simp [Value.cells] at hcs
    obtain ⟨rfl, rfl, rfl⟩ := hcs
    simp only [Prod.mk.injEq] at hx
    obtain ⟨rfl, rfl⟩ := hx
    simp only [if_true] at hmm
    subst m
    have hall : ∀ i, i < cap → ∃ y : OpD, y.ok ∧ y.s.size ≤ maxLen ∧ (∀ j v, (opv y).toList[j]? = some v → W.cell? ((a.add (i * 5)).add j) = some v) ∧ ∀ (W' : World) (sp : Nat → Bool), Below W.heap.size W W' → ∃ cs n, W'.cells? 0 (a.add (i * Tryd.prog.cellsOf 44)) (Tryd.prog.cellsOf 44) = some cs ∧ DataW.trod enc Tryd.prog W' 0 sp true n 44 cs = some (D i, Pl i) := fun i hi => by
      obtain ⟨cs, hc, ht⟩ := hel i hi
      obtain ⟨y, hy1, hy2, rfl, hy3⟩ := op_cells ht
      obtain ⟨hb0, hcl, hcc⟩ := World.cells?_some hc
      refine ⟨y, hy1, hy2, fun j v hv => ?_, fun W' sp hb => ⟨_, 2, ?_, hy3 W' sp⟩⟩
      · have hj : j < 5 := by
          have := (List.getElem?_eq_some_iff.1 hv).1
          simpa using this
        have := hcc j (by rw [c5]; exact hj)
        rw [c5] at this
        rw [this, hv]
      · exact cells_below hc hb
    refine ⟨some a, len, cap, rfl, hl, hm, ?_, fun W' sp hb hsp => ?_⟩
    · refine ⟨(List.range len).map fun i => if hi : i < cap then (hall i hi).choose else ⟨0, 0, 0, 0, ⟨#[]⟩⟩, fun i x hx => ?_, by simp⟩
      have hil : i < len := by
        rcases Nat.lt_or_ge i len with hi | hi
        · exact hi
        · rw [List.getElem?_eq_none (by simpa using hi)] at hx; cases hx
      have hic : i < cap := by omega
      rw [List.getElem?_map, List.getElem?_range hil] at hx
      simp only [Option.map_some, Option.some.injEq, dif_pos hic] at hx
      obtain ⟨k1, k2, k3, _⟩ := (hall i hic).choose_spec
      rw [hx] at k1 k2 k3
      obtain ⟨b, off, spot⟩ := a
      have h0 := k3 0 _ rfl
      have hspot : spot = none := by
        by_cases e : i = 0
        · subst e
          simpa [Addr.add] using World.cell?_spot h0
        · obtain ⟨_, _, m3, _⟩ := (hall 0 (by omega)).choose_spec
          simpa [Addr.add] using World.cell?_spot (m3 0 _ rfl)
      subst hspot
      have hadd : ∀ j, ((⟨b, off, none⟩ : Addr).add (i * 5)).add j = ⟨b, off + i * 5 + j, none⟩ := fun j => by
        rw [add_plain, add_plain]
      refine ⟨b, off, rfl, k1, k2, ?_, ?_, ?_, ?_, ?_⟩
      · have := k3 0 _ rfl; rwa [hadd] at this
      · have := k3 1 _ rfl; rwa [hadd] at this
      · have := k3 2 _ rfl; rwa [hadd] at this
      · have := k3 3 _ rfl; rwa [hadd] at this
      · have := k3 4 _ rfl; rwa [hadd] at this
    · by_cases hs : sp a.block = true
      · exact Go.Deep.shut_slice_whole Tryd.underlying34 (Nat.zero_le _) hl hm hs D Pl (fun i hi => (hall i hi).choose_spec.2.2.2 W' sp hb)
      · have hc0 : cap = 0 := by
          rcases Nat.eq_zero_or_pos cap with h0 | h0
          · exact h0
          · exact absurd (hsp (.cell a.block (a.off + 0)) (List.mem_append_left _ (List.mem_map.2 ⟨0, by rw [c5]; simp; omega, rfl⟩))) hs
        subst hc0
        obtain rfl : len = 0 := by omega
        have := Go.Deep.shut_slice (enc := enc) (w := W') (base := 0) (spare := sp) (held := true) (a := a) Tryd.underlying34 (Nat.zero_le _) hl hm (by simpa using hs) D Pl (fun i hi => by omega)
        exact this
end Go.Proofs.YtchaojdjgbeepaaDoor
