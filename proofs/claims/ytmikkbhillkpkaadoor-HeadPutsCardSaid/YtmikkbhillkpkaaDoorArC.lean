/-
  arena: what an arena is in memory; the checks that come ahead of each call.
-/
import Derived.Test.YtmikkbhillkpkaaDoorArB
import Derived.Test.YtmikkbhillkpkaaDoorGenB
import Derived.Lib.BufferWrite
import Derived.Deep.QuietTactic
import Derived.BigQuiet
import Derived.IntWalk
namespace Go.Proofs.YtmikkbhillkpkaaDoor
open Go.RowKit Go.Lib Go.Shelf
attribute [local go_sem] Oper.semAt_some

/-- A struct of one slice of bytes in block p, of type t; its bytes lie in block g. -/
structure ArT (t : TypeId) (w : World) (p g : Nat) (bs : List UInt8) : Prop where
  ne : g ≠ p
  hp : Blk w p #[.slice (some ⟨g, 0, none⟩) bs.length bs.length] t
  hg : Blk w g (byteCells bs).toArray 5
  len : bs.length ≤ 131072
/-- An arena in block p; its bytes lie in block g. -/
abbrev Ar (w : World) (p g : Nat) (bs : List UInt8) : Prop := ArT 77 w p g bs
theorem ArT.below {t : TypeId} {w w' : World} {p g : Nat} {bs : List UInt8} (h : ArT t w p g bs) (hb : Below w.heap.size w w') : ArT t w' p g bs := ⟨h.ne, h.hp.below' hb, h.hg.below' hb, h.len⟩
/-- What a bound asks. -/
def okB (n : Nat) (f k s : Int) : Prop := 0 ≤ f ∧ 0 ≤ k ∧ k ≤ n - f ∧ f % s = 0
instance (n : Nat) (f k s : Int) : Decidable (okB n f k s) := by unfold okB; infer_instance
/-- A bound in memory. -/
abbrev bnd (f k s : Int) : Array Value := #[.int .i64 f, .int .i64 k, .int .i64 s]

set_option maxRecDepth 100000 in
theorem check_ok (p g D : Nat) (bs : List UInt8) (f k s : Int) (w : World) (hA : Ar w p g bs) (hD : Blk w D (bnd f k s) 82) (hs : s = 1 ∨ s = 4) (h : okB bs.length f k s) :
    Calls Tryd.prog 53 #[.pointer (some ⟨p, 0, none⟩), .slice (some ⟨D, 0, none⟩) 1 1] w fun e w' => e = .returned .nilIface ∧ Below w.heap.size w w' := by
  obtain ⟨h0, h1, h2, h3⟩ := h
  have hln := hA.len
  have cp : w.cell? ⟨p, 0, none⟩ = some (.slice (some ⟨g, 0, none⟩) bs.length bs.length) := hA.hp.cell rfl
  have cD0 : w.cell? ⟨D, 0, none⟩ = some (.int .i64 f) := hD.cell rfl
  have cD1 : w.cell? ⟨D, 1, none⟩ = some (.int .i64 k) := hD.cell rfl
  have cD2 : w.cell? ⟨D, 2, none⟩ = some (.int .i64 s) := hD.cell rfl
  have hpl := hA.hp.lt
  have hDl := hD.lt
  have CP := Lib.hid cp
  have D0 := Lib.hid cD0
  have D1 := Lib.hid cD1
  have D2 := Lib.hid cD2
  clear hA hD cp cD0 cD1 cD2
  generalize bs.length = N at *
  go_enter Tryd.func53, Tryd.ntmps53
  go_wp2
  go_step3
  go_wp2
  go_step3
  go_wp2
  go_loopw [9] (fun i wr => ∃ j : Nat, j ≤ 1 ∧ i = .int .i64 (j : Int) ∧ Below w.heap.size w wr) (fun i _ => 1 - (intOf i).toNat)
  case atStart => exact ⟨0, by omega, rfl, Below.refl _ _⟩
  case round =>
    obtain ⟨j, hj, rfl, hb⟩ := hrel
    by_cases hlt : j < 1
    · obtain rfl : j = 0 := by omega
      have c0 := cell_below CP.out hb
      have d0 := cell_below D0.out hb
      have d1 := cell_below D1.out hb
      have d2 := cell_below D2.out hb
      have b0 : decide (0 ≤ f) = true := by simpa using h0
      have b1 : decide (0 ≤ k) = true := by simpa using h1
      have b2 : decide (k ≤ (N : Int) - f) = true := by simpa using h2
      have e1 : IntKind.i64.wrap ((N : Int) - f) = (N : Int) - f := IntWalk.i64_in _ (by omega)
      have e2 : f.tmod s = 0 := by rw [Int.tmod_eq_emod_of_nonneg h0]; exact h3
      have e3 : IntKind.i64.wrap (f.tmod s) = 0 := by rw [e2]; rfl
      clear h3
      rcases hs with rfl | rfl
      · have c1 := cell_al (.cells #[.int .i64 f, .int .i64 k, .int .i64 1] 82) c0
        go_wp2
        go_quiet (fail)
        go_wp2
        exact ⟨⟨1, by omega, rfl, Ad.below_drewN (hb.alloc hb.size _) _⟩, by simp [intOf]⟩
      · have c1 := cell_al (.cells #[.int .i64 f, .int .i64 k, .int .i64 4] 82) c0
        go_wp2
        go_quiet (fail)
        go_wp2
        exact ⟨⟨1, by omega, rfl, Ad.below_drewN (hb.alloc hb.size _) _⟩, by simp [intOf]⟩
    · obtain rfl : j = 1 := by omega
      go_wp2
      try rw [Exit.noGoto_ret]
      go_ret
      exact ⟨rfl, hb⟩

/-- Is a number one of an int? -/
def InI (f : Int) : Prop := -9223372036854775808 ≤ f ∧ f ≤ 9223372036854775807
set_option maxRecDepth 100000 in
set_option maxHeartbeats 1000000 in
theorem check_bad (V : VR) (p g D : Nat) (bs : List UInt8) (f k s : Int) (w : World) (hV : RV w V) (hA : Ar w p g bs) (hD : Blk w D (bnd f k s) 82) (hs : s = 1 ∨ s = 4) (hf : InI f) (h : ¬ okB bs.length f k s) :
    Calls Tryd.prog 53 #[.pointer (some ⟨p, 0, none⟩), .slice (some ⟨D, 0, none⟩) 1 1] w fun e w' => e = .returned (.iface 118 (.pointer (some V.rA))) ∧ Below w.heap.size w w' := by
  have hln := hA.len
  have cp : w.cell? ⟨p, 0, none⟩ = some (.slice (some ⟨g, 0, none⟩) bs.length bs.length) := hA.hp.cell rfl
  have cD0 : w.cell? ⟨D, 0, none⟩ = some (.int .i64 f) := hD.cell rfl
  have cD1 : w.cell? ⟨D, 1, none⟩ = some (.int .i64 k) := hD.cell rfl
  have cD2 : w.cell? ⟨D, 2, none⟩ = some (.int .i64 s) := hD.cell rfl
  have hpl := hA.hp.lt
  have hDl := hD.lt
  have CP := Lib.hid cp
  have D0 := Lib.hid cD0
  have D1 := Lib.hid cD1
  have D2 := Lib.hid cD2
  have CA := Lib.hid hV.cA.1
  have hf2 := hf.2
  have hf1 := hf.1
  unfold okB at h
  clear hV hA hD cp cD0 cD1 cD2 hf
  generalize bs.length = N at *
  go_enter Tryd.func53, Tryd.ntmps53
  go_wp2
  go_step3
  go_wp2
  go_step3
  go_wp2
  go_loopw [9] (fun i wr => i = .int .i64 0 ∧ Below w.heap.size w wr) (fun i _ => 0)
  case atStart => exact ⟨rfl, Below.refl _ _⟩
  case round =>
    obtain ⟨rfl, hb⟩ := hrel
    have c0 := cell_below CP.out hb
    have d0 := cell_below D0.out hb
    have d1 := cell_below D1.out hb
    have d2 := cell_below D2.out hb
    have cA := cell_below CA.out hb
    have c1 := cell_al (.cells #[.int .i64 f, .int .i64 k, .int .i64 s] 82) c0
    have cA1 := cell_al (.cells #[.int .i64 f, .int .i64 k, .int .i64 s] 82) cA
    have HB := Lib.hid (hb.alloc hb.size (.cells #[.int .i64 f, .int .i64 k, .int .i64 s] 82))
    clear hb
    by_cases h0 : 0 ≤ f
    · have b0 : decide (0 ≤ f) = true := by simpa using h0
      by_cases h1 : 0 ≤ k
      · have b1 : decide (0 ≤ k) = true := by simpa using h1
        have e1 : IntKind.i64.wrap ((N : Int) - f) = (N : Int) - f := IntWalk.i64_in _ (by omega)
        by_cases h2 : k ≤ (N : Int) - f
        · have b2 : decide (k ≤ (N : Int) - f) = true := by simpa using h2
          have hne : f % s ≠ 0 := fun e => h ⟨h0, h1, h2, e⟩
          have e2 : (f.tmod s == 0) = false := by rw [Int.tmod_eq_emod_of_nonneg h0]; simpa using hne
          have e4 : (f % s == 0) = false := by simpa using hne
          have e3 : IntKind.i64.wrap (f.tmod s) = f.tmod s := IntWalk.i64_in _ (by rw [Int.tmod_eq_emod_of_nonneg h0]; rcases hs with rfl | rfl <;> omega)
          clear h
          rcases hs with rfl | rfl
          · exact absurd (Int.emod_one f) hne
          · clear hne
            go_wp2
            go_quiet (fail)
            go_wp2
            try rw [Exit.noGoto_ret]
            go_ret
            exact ⟨rfl, Ad.below_drewN HB.out _⟩
        · have b2 : decide (k ≤ (N : Int) - f) = false := by simpa using h2
          clear h h2
          go_wp2
          go_quiet (fail)
          go_wp2
          try rw [Exit.noGoto_ret]
          go_ret
          exact ⟨rfl, Ad.below_drewN HB.out _⟩
      · have b1 : decide (0 ≤ k) = false := by simpa using h1
        clear h h1
        go_wp2
        go_quiet (fail)
        go_wp2
        try rw [Exit.noGoto_ret]
        go_ret
        exact ⟨rfl, Ad.below_drewN HB.out _⟩
    · have b0 : decide (0 ≤ f) = false := by simpa using h0
      clear h h0
      go_wp2
      go_quiet (fail)
      go_wp2
      try rw [Exit.noGoto_ret]
      go_ret
      exact ⟨rfl, Ad.below_drewN HB.out _⟩

theorem ready_ok (p g D : Nat) (bs : List UInt8) (f k s : Int) (w : World) (hA : Ar w p g bs) (hD : Blk w D (bnd f k s) 82) (hs : s = 1 ∨ s = 4) (h : okB bs.length f k s) :
    Calls Tryd.prog 39 #[.pointer (some ⟨p, 0, none⟩), .slice (some ⟨D, 0, none⟩) 1 1] w fun e w' => e = .returned .nilIface ∧ Below w.heap.size w w' := by
  have HC := Lib.hid (check_ok p g D bs f k s w hA hD hs h)
  clear hA hD h
  go_enter Tryd.func39, Tryd.ntmps39
  go_wp2_with fail
  ((with_reducible refine HC.out.mono ?_))
  rintro e w' ⟨rfl, hb⟩
  have HB := Lib.hid hb
  clear hb
  go_wp2
  go_ret
  exact ⟨rfl, HB.out⟩
theorem ready_bad (V : VR) (p g D : Nat) (bs : List UInt8) (f k s : Int) (w : World) (hV : RV w V) (hA : Ar w p g bs) (hD : Blk w D (bnd f k s) 82) (hs : s = 1 ∨ s = 4) (hf : InI f) (h : ¬ okB bs.length f k s) :
    Calls Tryd.prog 39 #[.pointer (some ⟨p, 0, none⟩), .slice (some ⟨D, 0, none⟩) 1 1] w fun e w' => e = .returned (.iface 118 (.pointer (some V.rA))) ∧ Below w.heap.size w w' := by
  have HC := Lib.hid (check_bad V p g D bs f k s w hV hA hD hs hf h)
  clear hV hA hD h hf
  go_enter Tryd.func39, Tryd.ntmps39
  go_wp2_with fail
  ((with_reducible refine HC.out.mono ?_))
  rintro e w' ⟨rfl, hb⟩
  have HB := Lib.hid hb
  clear hb
  go_wp2
  go_ret
  exact ⟨rfl, HB.out⟩
theorem ready_nil (V : VR) (q : Value) (w : World) (hV : RV w V) :
    Calls Tryd.prog 39 #[.pointer none, q] w fun e w' => e = .returned (.iface 118 (.pointer (some V.rN))) ∧ w = w' := by
  have cN := hV.cN.1
  clear hV
  go_enter Tryd.func39, Tryd.ntmps39
  go_wp2
  go_ret
  exact ⟨rfl, rfl⟩
end Go.Proofs.YtmikkbhillkpkaaDoor
