/-
  selionref08.Lengths, selionref07.Lines, Count, selionref08.Room; what lay in memory stays.
-/
import Derived.Test.YtgjhdjfjfmbejaaRefD
import Derived.Test.YtgjhdjfjfmbejaaHoleSumPlain
namespace Go.Proofs.Ytgjhdjfjfmbejaa
open Go.RowKit Go.Lib Go.Shelf
attribute [local go_sem] Oper.semAt_some

def zeros33 : Array Value := Array.replicate 33 (.int .i64 0)
theorem mk33 (W : World) : (Instr.makeSlice 22 (.int .i64 33) (.int .i64 33)).run Try.prog W = .ok (.slice (some ⟨W.heap.size, 0, none⟩) 33 33) (W.alloc (.cells zeros33 3)) := by kernel_rfl
theorem zeros33_n : zeros33 = ncells (cntH []) := rfl
theorem cntH_take (ps : List (Nat × Nat)) (k : Nat) (x : Nat × Nat) (h : ps[k]? = some x) : (fun j => if j = x.2 - x.1 then cntH (ps.take k) (x.2 - x.1) + 1 else cntH (ps.take k) j) = cntH (ps.take (k + 1)) := by
  obtain ⟨hk, rfl⟩ := List.getElem?_eq_some_iff.1 h
  funext j
  rw [List.take_succ_eq_append_getElem hk]
  unfold cntH
  rw [List.countP_append, List.countP_cons, List.countP_nil]
  by_cases h : j = (ps[k]).2 - (ps[k]).1
  · subst h; simp
  · have h' : ((ps[k]).2 - (ps[k]).1 == j) = false := by simp; omega
    rw [if_neg h, h']; simp
def RLenPost (w : World) (ps : List (Nat × Nat)) (e : Ending) (w' : World) : Prop := ∃ g, e = .returned (.tuple #[.slice (some ⟨g, 0, none⟩) 33 33, .int .i64 0]) ∧ Blk w' g (ncells (cntH ps)) 3 ∧ Below w.heap.size w w'

set_option maxRecDepth 100000 in
set_option maxHeartbeats 2000000 in
theorem rlengths_yes (b o cap : Nat) (z : Nat → Int) (w : World) (hT : Tab w b o z) (hr : rightT z = true) :
    Calls Try.prog 17 #[.slice (some ⟨b, o, none⟩) 32 cap] w (RLenPost w (holesZ (keptZ z) 0)) := by
  have HT := Lib.hid hT
  have HA := Lib.hid (fun w hT => rall_yes b o cap z w hT hr)
  have HBD := Lib.hid (holesZ_bounds (keptZ z) 32 0 (by omega))
  have hlz := holesZ_len (keptZ z) 32 0 (by omega)
  generalize holesZ (keptZ z) 0 = ps at HA HBD hlz ⊢
  clear hT hr
  have hmk := mk33
  go_enter Try.func17, Try.ntmps17
  go_wp2_with (go_at_call 11; ((with_reducible refine (HA.out _ HT.out).mono ?_)); rintro e w1 ⟨v, rfl, hH, hb⟩; obtain ⟨p, cap', rfl⟩ := HL.slice hH; have HH := Lib.hid hH; have HB := Lib.hid hb; clear hb hH)
  clear HA HT hmk
  have HX := Lib.hid (Blk.new w1 zeros33 3)
  go_loopw [7] (fun i wr => ∃ k : Nat, k ≤ ps.length ∧ i = .int .i64 (k : Int) ∧ Blk wr w1.heap.size (ncells (cntH (ps.take k))) 3 ∧ Below w1.heap.size w1 wr) (fun i _ => 64 - (intOf i).toNat)
  case atStart => exact ⟨0, by omega, rfl, HX.out, (Below.refl _ w1).alloc (Nat.le_refl _) _⟩
  case round =>
    obtain ⟨k, hk, rfl, gX, hB⟩ := hrel
    have HBr := Lib.hid hB
    clear hB HX
    by_cases hlt : k < ps.length
    · have hx : ps[k]? = some ps[k] := List.getElem?_eq_getElem hlt
      obtain ⟨hm1, hm2⟩ := HBD.out ps[k] (List.getElem_mem hlt)
      obtain ⟨g, g0, rfl, c0', c1'⟩ := HH.out.at hx
      have hgl : g < w1.heap.size := World.block_lt_of_cell? w1 _ c0'
      have c0 := cell_below c0' HBr.out
      have c1 := cell_below c1' HBr.out
      have HS := Lib.hid (cntH_take ps k _ hx)
      clear c0' c1'
      have hcl : cntH (ps.take k) ((ps[k]).2 - (ps[k]).1) ≤ 32 := Nat.le_trans (cntH_len _ _) (by rw [List.length_take]; omega)
      generalize ps[k] = x at hx hm1 hm2 c0 c1 HS hcl
      clear hx
      obtain ⟨d, hd⟩ : ∃ d : Nat, x.2 - x.1 = d := ⟨_, rfl⟩
      have hd1 : d ≤ 32 := by omega
      have hd2 : (x.2 : Int) - (x.1 : Int) = (d : Int) := by omega
      rw [hd] at HS hcl
      have HG := Lib.hid gX
      have c2 : wr.cell? ⟨w1.heap.size, d, none⟩ = some (.int .i64 ((cntH (ps.take k) d : Nat) : Int)) := gX.cell (ncells_get _ d (by omega))
      have f2 := gX.frozen d
      clear gX
      generalize hc : cntH (ps.take k) d = c at c2 hcl
      have HC := Lib.hid hc
      have i0 : (0 : Int) ≤ (k : Int) := by omega
      have i1 : (k : Int) < (ps.length : Int) := by omega
      have hne : g ≠ w1.heap.size := by omega
      clear hc hd
      go_wp2
      have j3 : IntKind.i64.wrap ((x.2 : Int) - (x.1 : Int)) = (d : Int) := by rw [IntWalk.i64_in _ (by omega)]; exact hd2
      have j4 : IntKind.i64.wrap ((c : Int) + 1) = (c : Int) + 1 := IntWalk.i64_in _ (by omega)
      have j5 : (0 : Int) ≤ (d : Int) := by omega
      have j6 : (d : Int) < 33 := by omega
      clear hd2
      go_region
      all_goals clear j3 j4
      all_goals go_wp2
      all_goals go_roundw
      all_goals (try (case rel =>
        refine ⟨k + 1, by omega, by go_num, ?_, (HBr.out.setCell (p := ⟨w1.heap.size, d, none⟩) (Nat.le_refl _) _).drew⟩
        have h1 := HG.out.set d (.int .i64 ((c + 1 : Nat) : Int))
        rw [ncells_set _ _ _ (by omega), ← HC.out, HS.out, HC.out] at h1
        exact h1.drew))
      all_goals (simp [intOf]; omega)
    · obtain rfl : k = ps.length := by omega
      rw [List.take_length] at gX
      go_wp2
      go_ret2
      exact ⟨_, rfl, gX, bstep HB.out HBr.out⟩
set_option maxRecDepth 100000 in
theorem rlengths_no (p : Option Addr) (n cap : Nat) (w : World) (hI : IC w p n) (hn : n ≤ 34) (hA : NoTab w (.slice p n cap)) :
    Calls Try.prog 17 #[.slice p n cap] w fun e w' => e = .returned (.tuple #[.slice none 0 0, .int .i64 70]) ∧ Below w.heap.size w w' := by
  have HRT := Lib.hid (rall_no p n cap _ hI hn hA)
  clear hI hA
  go_enter Try.func17, Try.ntmps17
  go_wp2_with (go_at_call 11; ((with_reducible refine HRT.out.mono ?_)); rintro e w' ⟨rfl, rfl⟩)
  go_ret2
  exact ⟨rfl, Below.refl _ _⟩

theorem own_slice {w : World} {base : Nat} {e : TypeId} {size n : Nat} {v : Value} {xs : List Value} (h : w.ownsRow base e size v n xs) : ∃ q c, v = .slice q n c := by
  rcases h.2 with ⟨rfl, rfl⟩ | ⟨g, cap, cur, rfl, _⟩
  · exact ⟨none, 0, rfl⟩
  · exact ⟨_, _, rfl⟩
/-- Lines, as integers. -/
def intsL (xs : List (Fin 32)) : List Int := xs.map fun x => ((x.val : Nat) : Int)
theorem IL.own {W : World} {base : Nat} {e : TypeId} {v : Value} {xs : List (Fin 32)} (h : World.ownsRow W base e 1 v xs.length (vals xs)) (hl : xs.length ≤ 1000) : IL W v (intsL xs) := by
  have h' := h
  have hlen : (intsL xs).length = xs.length := by simp [intsL]
  rcases h.2 with ⟨rfl, h0⟩ | ⟨g, cap, cur, rfl, _⟩
  · have : xs = [] := List.length_eq_zero_iff.1 h0
    subst this
    exact ⟨none, 0, rfl, by simp [intsL], fun i x hx => by simp [intsL] at hx⟩
  · refine ⟨some ⟨g, 0, none⟩, cap, by rw [hlen], by rw [hlen]; exact hl, fun i x hx => ⟨g, 0, rfl, ?_⟩⟩
    rw [Nat.zero_add]
    refine row_cellN h' i _ ?_
    simp only [intsL, List.getElem?_map, Option.map_eq_some_iff] at hx
    obtain ⟨y, hy, rfl⟩ := hx
    simp [vals, hy]
def RLinesPost (w : World) (xs : List (Fin 32)) (e : Ending) (w' : World) : Prop := ∃ v, e = .returned v ∧ w'.ownsRow w.heap.size 3 1 v xs.length (vals xs) ∧ Below w.heap.size w w'

set_option maxRecDepth 100000 in
set_option maxHeartbeats 2000000 in
theorem rlines_yes (b o cap : Nat) (z : Nat → Int) (w : World) (hT : Tab w b o z) (hr : rightT z = true) :
    Calls Try.prog 39 #[.slice (some ⟨b, o, none⟩) 32 cap] w (RLinesPost w (keptL z 32)) := by
  have HT := Lib.hid hT
  have HR := Lib.hid hr
  have hTlt := hT.lt
  obtain ⟨i0, hi, hz0, hz1, hz2⟩ := info_parts Try.infoInt
  clear hT hr
  go_enter Try.func39, Try.ntmps39
  go_wp2
  go_loopw [3, 4] (fun v i wr => ∃ k : Nat, k ≤ 32 ∧ i = .int .i64 (k : Int) ∧ wr.ownsRow w.heap.size 3 1 v (keptL z k).length (vals (keptL z k)) ∧ Below w.heap.size w wr) (fun _ i _ => 64 - (intOf i).toNat)
  case atStart => exact ⟨0, by omega, rfl, World.ownsRow_nil _ _ _ _, Below.refl _ _⟩
  case round =>
    obtain ⟨k, hk, rfl, hown, hB⟩ := hrel
    have HO := Lib.hid hown
    have HBr := Lib.hid hB
    have HTr := Lib.hid (HT.out.below hB)
    clear hB hown
    by_cases hlt : k < 32
    · have hs := keptL_succ z k hlt
      have hlen := keptL_len z k
      cases hq : keptZ z k with
      | true =>
        rw [if_pos hq] at hs
        have HQ := Lib.hid hq
        have HS := Lib.hid hs
        clear hq hs
        generalize keptL z k = L at HO HS hlen
        go_wp2_with (first
          | (go_at_call 31; ((with_reducible refine (rkept_t k b o cap z _ HTr.out HR.out hlt HQ.out).mono ?_)); rintro e w' ⟨rfl, rfl⟩)
          | (at_builtin; refine wpList_append_own _ rfl _ _ 22 rfl w.heap.size 3 i0 (.int .i64 0) 1 8 Try.underlying22 hi hz0 hz1 hz2 rfl (by decide) _ L.length (vals L) rfl (HO.out.alloc _) ⟨wr.heap.size, 0, none⟩ 1 1 [.int .i64 (k : Int)] rfl rfl (cell_one_new _ _ _) (by simp [Value.oneCell']) (by unfold maxLen; omega) (by omega) (by have := HBr.out.size; simp; omega) ?_; intro v' w2 hown2 hgrow2 _; have HO2 := Lib.hid hown2; have HB2 := Lib.hid ((HBr.out.alloc HBr.out.size (.cells #[.int .i64 (k : Int)] 3)).grown hgrow2 (by have := HBr.out.size; simp; omega) (fun k ek => own_ge HO.out ek)); clear hown2 hgrow2))
        go_roundw
        case rel =>
          refine ⟨k + 1, by omega, by go_num, ?_, HB2.out⟩
          rw [HS.out, List.length_append, vals_snoc, fin_val k hlt]
          exact HO2.out
        case measure => simp [intOf]; omega
      | false =>
        rw [hq, if_neg (by decide), List.append_nil] at hs
        have HQ := Lib.hid hq
        have HS := Lib.hid hs
        clear hq hs
        go_wp2_with (go_at_call 31; ((with_reducible refine (rkept_f k b o cap z _ HTr.out HR.out hlt HQ.out).mono ?_)); rintro e w' ⟨rfl, rfl⟩)
        go_roundw
        case rel => exact ⟨k + 1, by omega, by go_num, by rw [HS.out]; exact HO.out, HBr.out⟩
        case measure => simp [intOf]; omega
    · obtain rfl : k = 32 := by omega
      go_wp2
      go_ret
      exact ⟨_, rfl, HO.out, HBr.out⟩

set_option maxRecDepth 100000 in
set_option maxHeartbeats 2000000 in
theorem rlines_no (p : Option Addr) (n cap : Nat) (w : World) (hI : IC w p n) (hn : n ≤ 34) (hA : NoTab w (.slice p n cap)) :
    Calls Try.prog 39 #[.slice p n cap] w fun e w' => e = .returned (.slice none 0 0) ∧ w = w' := by
  have HK := Lib.hid (fun i => rkept_no i p n cap w hI hn hA)
  clear hI hA
  go_enter Try.func39, Try.ntmps39
  go_wp2
  go_loop [3, 4] (fun v i => ∃ k : Nat, k ≤ 32 ∧ i = .int .i64 (k : Int) ∧ v = .slice none 0 0) (fun _ i => 64 - (intOf i).toNat)
  case atStart => exact ⟨0, by omega, rfl, rfl⟩
  case round =>
    obtain ⟨k, hk, rfl, rfl⟩ := hrel
    by_cases hlt : k < 32
    · go_wp2_with (go_at_call 31; ((with_reducible refine (HK.out _).mono ?_)); rintro e w' ⟨rfl, rfl⟩)
      go_round
      case rel => exact ⟨k + 1, by omega, by go_num, by first | rfl | trivial⟩
      case measure => simp [intOf]; omega
    · obtain rfl : k = 32 := by omega
      go_wp2
      go_ret
      exact ⟨rfl, rfl⟩
theorem rcount_yes (b o cap : Nat) (z : Nat → Int) (w : World) (hT : Tab w b o z) (hr : rightT z = true) :
    Calls Try.prog 34 #[.slice (some ⟨b, o, none⟩) 32 cap] w fun e w' => e = .returned (.int .i64 ((keptL z 32).length : Int)) ∧ Below w.heap.size w w' := by
  have HL := Lib.hid (rlines_yes b o cap z w hT hr)
  clear hT hr
  go_enter Try.func34, Try.ntmps34
  go_wp2_with (go_at_call 39; ((with_reducible refine HL.out.mono ?_)); rintro e w1 ⟨v, rfl, hown, hb⟩; obtain ⟨q, c, rfl⟩ := own_slice hown; have HB := Lib.hid hb; clear hb hown)
  go_ret
  exact ⟨rfl, HB.out⟩
theorem rcount_no (p : Option Addr) (n cap : Nat) (w : World) (hI : IC w p n) (hn : n ≤ 34) (hA : NoTab w (.slice p n cap)) :
    Calls Try.prog 34 #[.slice p n cap] w fun e w' => e = .returned (.int .i64 0) ∧ Below w.heap.size w w' := by
  have HL := Lib.hid (rlines_no p n cap w hI hn hA)
  clear hI hA
  go_enter Try.func34, Try.ntmps34
  go_wp2_with (go_at_call 39; ((with_reducible refine HL.out.mono ?_)); rintro e w1 ⟨rfl, rfl⟩)
  go_ret
  exact ⟨rfl, Below.refl _ _⟩
theorem rroom_yes (b o cap : Nat) (z : Nat → Int) (w : World) (hT : Tab w b o z) (hr : rightT z = true) :
    Calls Try.prog 20 #[.slice (some ⟨b, o, none⟩) 32 cap] w fun e w' => e = .returned (.int .i64 (sumH (holesZ (keptZ z) 0) : Int)) ∧ Below w.heap.size w w' := by
  have HR := Lib.hid (rright_yes b o cap z w hT hr)
  have HC := Lib.hid (rcount_yes b o cap z w hT hr)
  have HN := Lib.hid (room_count z)
  have hl := keptL_len z 32
  clear hT hr
  generalize (keptL z 32).length = N at HC HN hl
  generalize sumH (holesZ (keptZ z) 0) = S at HN ⊢
  have e : (S : Int) = 32 - (N : Int) := by have := HN.out; omega
  rw [e]
  clear e HN
  go_enter Try.func20, Try.ntmps20
  go_wp2_with (first
    | (go_at_call 29; ((with_reducible refine HR.out.mono ?_)); rintro e w' ⟨rfl, rfl⟩)
    | (go_at_call 34; ((with_reducible refine HC.out.mono ?_)); rintro e w1 ⟨rfl, hb⟩; have HB := Lib.hid hb; clear hb))
  go_ret
  exact ⟨rfl, HB.out⟩
theorem rroom_no (p : Option Addr) (n cap : Nat) (w : World) (hI : IC w p n) (hn : n ≤ 34) (hA : NoTab w (.slice p n cap)) :
    Calls Try.prog 20 #[.slice p n cap] w fun e w' => e = .returned (.int .i64 0) ∧ Below w.heap.size w w' := by
  have HR := Lib.hid (rright_no p n cap w hI hn hA)
  clear hI hA
  go_enter Try.func20, Try.ntmps20
  go_wp2_with (go_at_call 29; ((with_reducible refine HR.out.mono ?_)); rintro e w' ⟨rfl, rfl⟩)
  go_ret
  exact ⟨rfl, Below.refl _ _⟩
end Go.Proofs.Ytgjhdjfjfmbejaa
