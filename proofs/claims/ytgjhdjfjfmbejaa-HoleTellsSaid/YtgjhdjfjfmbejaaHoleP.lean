/-
  HoleWalks of chapter 8, walked: it returns true for every list, and what lay in memory stays.
-/
import Derived.Test.YtgjhdjfjfmbejaaHoleO
import Derived.Test.YtgjhdjfjfmbejaaHoleWalkPlain
import Derived.Test.YtgjhdjfjfmbejaaRowTab
namespace Go.Proofs.Ytgjhdjfjfmbejaa
open Go.RowKit Go.Lib Go.Shelf
attribute [local go_sem] Oper.semAt_some

theorem cut_32 (p : Option Addr) (cap : Nat) (w : World) (h : 32 ≤ cap) (hm : cap ≤ maxLen) :
    Calls Try.prog 9 #[.slice p 32 cap] w fun e w' => e = .returned (.slice p 32 cap) ∧ w = w' := cut_any p 32 cap w h hm
theorem next_at (b o cap : Nat) (z : Nat → Int) (f : Int) (x : Nat × Nat) (w : World) (hT : Tab w b o z) (hr : rightT z = true) (hx : (holesZ (keptZ z) (line0 f)).head? = some x) :
    Calls Try.prog 12 #[.slice (some ⟨b, o, none⟩) 32 cap, .int .i64 f] w fun e w' => e = .returned (.tuple #[.agg #[.int .i64 (x.1 : Int), .int .i64 (x.2 : Int)], .bool true]) ∧ Below w.heap.size w w' := by
  have := next_yes b o cap z f w hT hr
  rwa [hx] at this
theorem next_off (b o cap : Nat) (z : Nat → Int) (f : Int) (w : World) (hT : Tab w b o z) (hr : rightT z = true) (hx : (holesZ (keptZ z) (line0 f)).head? = none) :
    Calls Try.prog 12 #[.slice (some ⟨b, o, none⟩) 32 cap, .int .i64 f] w fun e w' => e = .returned (.tuple #[.agg #[.int .i64 0, .int .i64 0], .bool false]) ∧ Below w.heap.size w w' := by
  have := next_yes b o cap z f w hT hr
  rwa [hx] at this
theorem next_atN (b o cap : Nat) (z : Nat → Int) (f : Nat) (x : Nat × Nat) (w : World) (hT : Tab w b o z) (hr : rightT z = true) (hx : (holesZ (keptZ z) f).head? = some x) :
    Calls Try.prog 12 #[.slice (some ⟨b, o, none⟩) 32 cap, .int .i64 (f : Int)] w fun e w' => e = .returned (.tuple #[.agg #[.int .i64 (x.1 : Int), .int .i64 (x.2 : Int)], .bool true]) ∧ Below w.heap.size w w' :=
  next_at b o cap z f x w hT hr (by rw [show line0 (f : Int) = f from rfl]; exact hx)
theorem next_offN (b o cap : Nat) (z : Nat → Int) (f : Nat) (w : World) (hT : Tab w b o z) (hr : rightT z = true) (hx : (holesZ (keptZ z) f).head? = none) :
    Calls Try.prog 12 #[.slice (some ⟨b, o, none⟩) 32 cap, .int .i64 (f : Int)] w fun e w' => e = .returned (.tuple #[.agg #[.int .i64 0, .int .i64 0], .bool false]) ∧ Below w.heap.size w w' :=
  next_off b o cap z f w hT hr (by rw [show line0 (f : Int) = f from rfl]; exact hx)
theorem next_no' (v : Value) (f : Int) (w : World) (h : NoTab w v) :
    Calls Try.prog 12 #[v, .int .i64 f] w fun e w' => e = .returned (.tuple #[.agg #[.int .i64 0, .int .i64 0], .bool false]) ∧ Below w.heap.size w w' := next_no v f w h
def AllH (w : World) (ps : List (Nat × Nat)) (e : Ending) (w' : World) : Prop := ∃ g, e = .returned (.tuple #[.slice (some ⟨g, 0, none⟩) ps.length ps.length, .int .i64 0]) ∧ HL w' (.slice (some ⟨g, 0, none⟩) ps.length ps.length) ps ∧ Below w.heap.size w w'
theorem all_h (b o cap : Nat) (z : Nat → Int) (w : World) (hT : Tab w b o z) (hr : rightT z = true) :
    Calls Try.prog 10 #[.slice (some ⟨b, o, none⟩) 32 cap] w (AllH w (holesZ (keptZ z) 0)) := by
  refine (all_yes b o cap z w hT hr).mono ?_
  rintro e w' ⟨g, rfl, hH, hb⟩
  exact ⟨g, rfl, HL.all hH (by have := holesZ_len (keptZ z) 32 0 (by omega); omega), hb⟩
theorem HL.at {w : World} {p : Option Addr} {n cap : Nat} {ps : List (Nat × Nat)} (h : HL w (.slice p n cap) ps) {i : Nat} {x : Nat × Nat} (hx : ps[i]? = some x) : ∃ b o, p = some ⟨b, o, none⟩ ∧ w.cell? ⟨b, o + i * 2, none⟩ = some (.int .i64 (x.1 : Int)) ∧ w.cell? ⟨b, o + i * 2 + 1, none⟩ = some (.int .i64 (x.2 : Int)) := by
  obtain ⟨p', cap', e, _, hc⟩ := h
  simp at e
  obtain ⟨rfl, _, _⟩ := e
  exact hc i x hx

set_option maxRecDepth 100000 in
set_option maxHeartbeats 2000000 in
theorem walks_no (p : Option Addr) (n cap : Nat) (w : World) (hn : n ≤ cap) (hm : cap ≤ maxLen) (hA : NoTab w (.slice p (min n 34) cap)) :
    Calls Try.prog 4 #[.slice p n cap] w fun e w' => e = .returned (.bool true) ∧ Below w.heap.size w w' := by
  have HA := Lib.hid hA
  clear hA
  go_enter Try.func4, Try.ntmps4
  go_wp2_with (first
    | (go_at_call 8; ((with_reducible refine (shown_any _).mono ?_)); rintro e w1 ⟨rfl, hb⟩; replace HA := Lib.hid (HA.out.below hb); have HB := Lib.hid hb; clear hb)
    | (go_at_call 9; ((with_reducible refine (cut_any p n cap _ hn hm).mono ?_)); rintro e w' ⟨rfl, rfl⟩)
    | (go_at_call 10; ((with_reducible refine (all_no _ _ HA.out).mono ?_)); rintro e w2 ⟨rfl, hb⟩; replace HA := Lib.hid (HA.out.below hb); replace HB := Lib.hid (bstep HB.out hb); clear hb))
  refine wp_loop_rounds 1 ?_
  rw [rounds_succ]
  go_wp2_with (go_at_call 12; ((with_reducible refine (next_no' _ _ _ HA.out).mono ?_)); rintro e w3 ⟨rfl, hb⟩; replace HB := Lib.hid (bstep HB.out hb); clear hb)
  go_ret
  exact ⟨rfl, HB.out.alloc HB.out.size _⟩

set_option maxRecDepth 100000 in
set_option maxHeartbeats 2000000 in
theorem walks_yes (b o cap : Nat) (z : Nat → Int) (w : World) (hn : 32 ≤ cap) (hm : cap ≤ maxLen) (hT : Tab w b o z) (hr : rightT z = true) :
    Calls Try.prog 4 #[.slice (some ⟨b, o, none⟩) 32 cap] w fun e w' => e = .returned (.bool true) ∧ Below w.heap.size w w' := by
  have HT := Lib.hid hT
  have HR := Lib.hid hr
  clear hT hr
  go_enter Try.func4, Try.ntmps4
  go_wp2_with (first
    | (go_at_call 8; ((with_reducible refine (shown_any _).mono ?_)); rintro e w1 ⟨rfl, hb⟩; replace HT := Lib.hid (HT.out.below hb); have HB := Lib.hid hb; clear hb)
    | (go_at_call 9; ((with_reducible refine (cut_32 _ cap _ hn hm).mono ?_)); rintro e w' ⟨rfl, rfl⟩)
    | (go_at_call 10; ((with_reducible refine (all_h b o cap z _ HT.out HR.out).mono ?_)); rintro e w2 ⟨g, rfl, hH, hb⟩; have HH := Lib.hid hH; replace HT := Lib.hid (HT.out.below hb); replace HB := Lib.hid (bstep HB.out hb); clear hb hH))
  have hlz := holesZ_len (keptZ z) 32 0 (by omega)
  have HW := Lib.hid (walk_head (keptZ z))
  generalize hps : holesZ (keptZ z) 0 = ps at HH HW hlz ⊢
  clear hps
  go_loopw [6, 7] (fun f i wr => ∃ k : Nat, k ≤ ps.length ∧ i = .int .i64 (k : Int) ∧ f = .int .i64 (endAt ps k : Int) ∧ Below w2.heap.size w2 wr) (fun _ i _ => 64 - (intOf i).toNat)
  case atStart => exact ⟨0, by omega, rfl, rfl, Below.refl _ _⟩
  case round =>
    obtain ⟨k, hk, rfl, rfl, hB⟩ := hrel
    have HBr := Lib.hid hB
    clear hB
    by_cases hlt : k < ps.length
    · have hx : ps[k]? = some ps[k] := List.getElem?_eq_getElem hlt
      have hs := endAt_succ ps k _ hx
      have hh := (HW.out k hk).trans hx
      obtain ⟨b', o', e, c0, c1⟩ := (HH.out.below HBr.out).at hx
      generalize ps[k] = x at hs hh c0 c1
      injection e with e
      injection e with e1 e2
      subst e1 e2
      rw [Nat.zero_add] at c0 c1
      have HS := Lib.hid hs
      have HX := Lib.hid hh
      clear hs hh hx
      have i0 : (0 : Int) ≤ (k : Int) := by omega
      have i1 : (k : Int) < (ps.length : Int) := by omega
      go_wp2_with (go_at_call 12; ((with_reducible refine (next_atN b o cap z _ x _ (HT.out.below HBr.out) HR.out HX.out).mono ?_)); rintro e w3 ⟨rfl, hb⟩)
      replace c0 := cell_al (.cells #[.int .i64 (x.1 : Int), .int .i64 (x.2 : Int)] 30) (cell_below c0 hb)
      replace c1 := cell_al (.cells #[.int .i64 (x.1 : Int), .int .i64 (x.2 : Int)] 30) (cell_below c1 hb)
      have HB3 := Lib.hid ((bstep HBr.out hb).alloc (bstep HBr.out hb).size (.cells #[.int .i64 (x.1 : Int), .int .i64 (x.2 : Int)] 30))
      have bX := Blk.new w3 #[.int .i64 (x.1 : Int), .int .i64 (x.2 : Int)] 30
      have d0 := bX.cell (k := 0) rfl
      have d1 := bX.cell (k := 1) rfl
      clear hb bX
      generalize w3.alloc (.cells #[.int .i64 (x.1 : Int), .int .i64 (x.2 : Int)] 30) = W3 at c0 c1 d0 d1 HB3 ⊢
      go_quiet (fail)
      go_wp2
      go_roundw
      case rel => exact ⟨k + 1, by omega, by go_num, by rw [HS.out], below_drewN HB3.out _⟩
      case measure => simp [intOf]; omega
    · obtain rfl : k = ps.length := by omega
      have hh := (HW.out _ hk).trans (List.getElem?_eq_none (Nat.le_refl _))
      have HX := Lib.hid hh
      clear hh
      go_wp2_with (go_at_call 12; ((with_reducible refine (next_offN b o cap z _ _ (HT.out.below HBr.out) HR.out HX.out).mono ?_)); rintro e w3 ⟨rfl, hb⟩)
      go_ret
      exact ⟨rfl, (bstep (bstep HB.out HBr.out) hb).alloc (bstep (bstep HB.out HBr.out) hb).size _⟩
theorem lawHoleWalks (p : Option Addr) (n cap : Nat) (w : World) (hn : n ≤ cap) (hm : cap ≤ maxLen) (hI : IC w p n) :
    Calls Try.prog 4 #[.slice p n cap] w fun e w' => e = .returned (.bool true) ∧ Below w.heap.size w w' := by
  rcases tabOr_of (cap := cap) hI with h | ⟨b, o, z, rfl, rfl, hT, hr⟩
  · exact walks_no p n cap w hn hm h
  · exact walks_yes b o cap z w hn hm hT hr
end Go.Proofs.Ytgjhdjfjfmbejaa
