/-
  selionref07.Lines and Count; what lay in memory stays.
-/
import Derived.Test.YtgjhdjfjfmbejaaDoorRefA
import Derived.Test.YtgjhdjfjfmbejaaDoorHoleO
namespace Go.Proofs.YtgjhdjfjfmbejaaDoor
open Go.RowKit Go.Lib Go.Shelf
attribute [local go_sem] Oper.semAt_some

theorem own_blk {w W : World} {base : Nat} {e : TypeId} {size n : Nat} {v : Value} {xs : List Value} (h : w.ownsRow base e size v n xs) (hk : ∀ B cs t, base ≤ B → Blk w B cs t → Blk W B cs t) : W.ownsRow base e size v n xs := by
  refine ⟨h.1, ?_⟩
  rcases h.2 with h | ⟨g, cap, cur, hv, hg, hb, hr⟩
  · exact .inl h
  · exact .inr ⟨g, cap, cur, hv, hg, hk g cur e hg hb, hr⟩
theorem own_below {w W : World} {base : Nat} {e : TypeId} {size n : Nat} {v : Value} {xs : List Value} (h : w.ownsRow base e size v n xs) (hb : Below w.heap.size w W) : W.ownsRow base e size v n xs := own_blk h (fun _ _ _ _ b => b.below' hb)
theorem own_ge {w : World} {base : Nat} {e : TypeId} {size n : Nat} {v : Value} {xs : List Value} (h : w.ownsRow base e size v n xs) {k : Nat} (hk : v.ownBlock = some k) : base ≤ k := by
  rcases h.2 with ⟨rfl, _⟩ | ⟨g, cap, cur, rfl, hg, _⟩
  · cases hk
  · simp [Value.ownBlock] at hk; omega
theorem own_ne {w : World} {base : Nat} {e : TypeId} {size n : Nat} {v : Value} {xs : List Value} (h : w.ownsRow base e size v n xs) {B : Nat} (hB : B < base) : some B ≠ v.ownBlock := fun e' => by
  have := own_ge h e'.symm
  omega
theorem own_slice {w : World} {base : Nat} {e : TypeId} {size n : Nat} {v : Value} {xs : List Value} (h : w.ownsRow base e size v n xs) : ∃ q c, v = .slice q n c := by
  rcases h.2 with ⟨rfl, rfl⟩ | ⟨g, cap, cur, rfl, _⟩
  · exact ⟨none, 0, rfl⟩
  · exact ⟨_, _, rfl⟩
/-- Lines, as integers. -/
def intsL (xs : List (Fin 32)) : List Int := xs.map fun x => ((x.val : Nat) : Int)
theorem IL.own {W : World} {base : Nat} {e : TypeId} {v : Value} {xs : List (Fin 32)} (h : World.ownsRow W base e 1 v xs.length (vals xs)) (hl : xs.length ≤ 1000) : IL W v (intsL xs) := by
  have h' := h
  have hlen : (intsL xs).length = xs.length := by simp [intsL]
  rcases h.2 with ⟨rfl, h0⟩ | ⟨g, cap, cur, rfl, _⟩
  · have : xs = [] := List.length_eq_zero_iff.1 h0
    subst this
    exact ⟨none, 0, rfl, by simp [intsL], fun i x hx => by simp [intsL] at hx⟩
  · refine ⟨some ⟨g, 0, none⟩, cap, by rw [hlen], by rw [hlen]; exact hl, fun i x hx => ⟨g, 0, rfl, ?_⟩⟩
    rw [Nat.zero_add]
    refine row_cellN h' i _ ?_
    simp only [intsL, List.getElem?_map, Option.map_eq_some_iff] at hx
    obtain ⟨y, hy, rfl⟩ := hx
    simp [vals, hy]
def RLinesPost (w : World) (xs : List (Fin 32)) (e : Ending) (w' : World) : Prop := ∃ v, e = .returned v ∧ w'.ownsRow w.heap.size 3 1 v xs.length (vals xs) ∧ Below w.heap.size w w'

set_option maxRecDepth 100000 in
set_option maxHeartbeats 2000000 in
theorem rlines_yes (b o cap : Nat) (z : Nat → Int) (w : World) (hT : Tab w b o z) (hr : rightT z = true) :
    Calls Tryd.prog 25 #[.slice (some ⟨b, o, none⟩) 32 cap] w (RLinesPost w (keptL z 32)) := by
  have HT := Lib.hid hT
  have HR := Lib.hid hr
  have hTlt := hT.lt
  obtain ⟨i0, hi, hz0, hz1, hz2⟩ := info_parts Tryd.infoInt
  clear hT hr
  go_enter Tryd.func25, Tryd.ntmps25
  go_wp2
  go_loopw [3, 4] (fun v i wr => ∃ k : Nat, k ≤ 32 ∧ i = .int .i64 (k : Int) ∧ wr.ownsRow w.heap.size 3 1 v (keptL z k).length (vals (keptL z k)) ∧ Below w.heap.size w wr) (fun _ i _ => 64 - (intOf i).toNat)
  case atStart => exact ⟨0, by omega, rfl, World.ownsRow_nil _ _ _ _, Below.refl _ _⟩
  case round =>
    obtain ⟨k, hk, rfl, hown, hB⟩ := hrel
    have HO := Lib.hid hown
    have HBr := Lib.hid hB
    have HTr := Lib.hid (HT.out.below hB)
    clear hB hown
    by_cases hlt : k < 32
    · have hs := keptL_succ z k hlt
      have hlen := keptL_len z k
      cases hq : keptZ z k with
      | true =>
        rw [if_pos hq] at hs
        have HQ := Lib.hid hq
        have HS := Lib.hid hs
        clear hq hs
        generalize keptL z k = L at HO HS hlen
        go_wp2_with (first
          | (go_at_call 24; ((with_reducible refine (rkept_t k b o cap z _ HTr.out HR.out hlt HQ.out).mono ?_)); rintro e w' ⟨rfl, rfl⟩)
          | (at_builtin; refine wpList_append_own _ rfl _ _ 22 rfl w.heap.size 3 i0 (.int .i64 0) 1 8 Tryd.underlying22 hi hz0 hz1 hz2 rfl (by decide) _ L.length (vals L) rfl (HO.out.alloc _) ⟨wr.heap.size, 0, none⟩ 1 1 [.int .i64 (k : Int)] rfl rfl (cell_one_new _ _ _) (by simp [Value.oneCell']) (by unfold maxLen; omega) (by omega) (by have := HBr.out.size; simp; omega) ?_; intro v' w2 hown2 hgrow2 _; have HO2 := Lib.hid hown2; have HB2 := Lib.hid ((HBr.out.alloc HBr.out.size (.cells #[.int .i64 (k : Int)] 3)).grown hgrow2 (by have := HBr.out.size; simp; omega) (fun k ek => own_ge HO.out ek)); clear hown2 hgrow2))
        go_roundw
        case rel =>
          refine ⟨k + 1, by omega, by go_num, ?_, HB2.out⟩
          rw [HS.out, List.length_append, vals_snoc, fin_val k hlt]
          exact HO2.out
        case measure => simp [intOf]; omega
      | false =>
        rw [hq, if_neg (by decide), List.append_nil] at hs
        have HQ := Lib.hid hq
        have HS := Lib.hid hs
        clear hq hs
        go_wp2_with (go_at_call 24; ((with_reducible refine (rkept_f k b o cap z _ HTr.out HR.out hlt HQ.out).mono ?_)); rintro e w' ⟨rfl, rfl⟩)
        go_roundw
        case rel => exact ⟨k + 1, by omega, by go_num, by rw [HS.out]; exact HO.out, HBr.out⟩
        case measure => simp [intOf]; omega
    · obtain rfl : k = 32 := by omega
      go_wp2
      go_ret
      exact ⟨_, rfl, HO.out, HBr.out⟩

set_option maxRecDepth 100000 in
set_option maxHeartbeats 2000000 in
theorem rlines_no (p : Option Addr) (n cap : Nat) (w : World) (hI : IC w p n) (hn : n ≤ 34) (hA : NoTab w (.slice p n cap)) :
    Calls Tryd.prog 25 #[.slice p n cap] w fun e w' => e = .returned (.slice none 0 0) ∧ w = w' := by
  have HK := Lib.hid (fun i => rkept_no i p n cap w hI hn hA)
  clear hI hA
  go_enter Tryd.func25, Tryd.ntmps25
  go_wp2
  go_loop [3, 4] (fun v i => ∃ k : Nat, k ≤ 32 ∧ i = .int .i64 (k : Int) ∧ v = .slice none 0 0) (fun _ i => 64 - (intOf i).toNat)
  case atStart => exact ⟨0, by omega, rfl, rfl⟩
  case round =>
    obtain ⟨k, hk, rfl, rfl⟩ := hrel
    by_cases hlt : k < 32
    · go_wp2_with (go_at_call 24; ((with_reducible refine (HK.out _).mono ?_)); rintro e w' ⟨rfl, rfl⟩)
      go_round
      case rel => exact ⟨k + 1, by omega, by go_num, by first | rfl | trivial⟩
      case measure => simp [intOf]; omega
    · obtain rfl : k = 32 := by omega
      go_wp2
      go_ret
      exact ⟨rfl, rfl⟩
theorem rcount_yes (b o cap : Nat) (z : Nat → Int) (w : World) (hT : Tab w b o z) (hr : rightT z = true) :
    Calls Tryd.prog 26 #[.slice (some ⟨b, o, none⟩) 32 cap] w fun e w' => e = .returned (.int .i64 ((keptL z 32).length : Int)) ∧ Below w.heap.size w w' := by
  have HL := Lib.hid (rlines_yes b o cap z w hT hr)
  clear hT hr
  go_enter Tryd.func26, Tryd.ntmps26
  go_wp2_with (go_at_call 25; ((with_reducible refine HL.out.mono ?_)); rintro e w1 ⟨v, rfl, hown, hb⟩; obtain ⟨q, c, rfl⟩ := own_slice hown; have HB := Lib.hid hb; clear hb hown)
  go_ret
  exact ⟨rfl, HB.out⟩
theorem rcount_no (p : Option Addr) (n cap : Nat) (w : World) (hI : IC w p n) (hn : n ≤ 34) (hA : NoTab w (.slice p n cap)) :
    Calls Tryd.prog 26 #[.slice p n cap] w fun e w' => e = .returned (.int .i64 0) ∧ Below w.heap.size w w' := by
  have HL := Lib.hid (rlines_no p n cap w hI hn hA)
  clear hI hA
  go_enter Tryd.func26, Tryd.ntmps26
  go_wp2_with (go_at_call 25; ((with_reducible refine HL.out.mono ?_)); rintro e w1 ⟨rfl, rfl⟩)
  go_ret
  exact ⟨rfl, Below.refl _ _⟩
end Go.Proofs.YtgjhdjfjfmbejaaDoor
