/-
  hole.Room, Longest, Lengths, All of what is no table.
-/
import Derived.Test.YtanccoahpcfbnaaDoorHoleG
namespace Go.Proofs.YtanccoahpcfbnaaDoor
open Go.RowKit Go.Lib Go.Shelf
attribute [local go_sem] Oper.semAt_some

/-- A list that is no table: of another length, or with a number that is none of a line. -/
def NoTab (w : World) (v : Value) : Prop := (∃ p n cap, v = .slice p n cap ∧ n ≠ 32) ∨ (∃ b o cap z, v = .slice (some ⟨b, o, none⟩) 32 cap ∧ Tab w b o z ∧ rightT z = false)
theorem NoTab.below {w w' : World} {v : Value} (h : NoTab w v) (hb : Below w.heap.size w w') : NoTab w' v := by
  rcases h with h | ⟨b, o, cap, z, e, hT, hr⟩
  · exact .inl h
  · exact .inr ⟨b, o, cap, z, e, hT.below hb, hr⟩
theorem look_none (v : Value) (f : Int) (w : World) (h : NoTab w v) :
    Calls Tryd.prog 46 #[v, .int .i64 f] w fun e w' => e = .returned (.tuple #[.agg (fcells (fun _ => false) 0), .bool false]) ∧ Below w.heap.size w w' := by
  rcases h with ⟨p, n, cap, rfl, hn⟩ | ⟨b, o, cap, z, rfl, hT, hr⟩
  · exact look_len p n cap f w hn
  · exact look_not b o cap z f w hT hr

set_option maxRecDepth 100000 in
set_option maxHeartbeats 2000000 in
theorem room_no (v : Value) (w : World) (h : NoTab w v) :
    Calls Tryd.prog 29 #[v] w fun e w' => e = .returned (.int .i64 0) ∧ Below w.heap.size w w' := by
  have HT := Lib.hid h
  clear h
  go_enter Tryd.func29, Tryd.ntmps29
  go_wp2_with (first
    | (go_at_call 46; ((with_reducible refine (look_none v 0 _ ?_).mono ?_)); exact HT.out.below ((Below.refl _ w).alloc (Nat.le_refl _) _); rintro e w1 ⟨rfl, hb1⟩; have bS : Blk w1 w.heap.size #[.int .i64 0] 3 := (Blk.new w _ _).below' hb1; have HB1 := Lib.hid (bstep ((Below.refl _ w).alloc (Nat.le_refl _) _) hb1); clear hb1)
    | (refine wpList_store_new rfl 77 _ _ rfl _ (fcells (fun _ => false) 0) 77 rfl rfl (by rw [fcells_size]; exact Tryd.infoFinder) (by rfl) (fcells_one _ _) ?_; intro W2 bF bK hB2 hs2; have bS2 := bK _ _ _ bS; have c2 := bS2.cell (k := 0) rfl; have HB2 := Lib.hid (bstep HB1.out hB2); clear bK hB2 hs2))
  go_ret
  exact ⟨rfl, HB2.out⟩
set_option maxRecDepth 100000 in
set_option maxHeartbeats 2000000 in
theorem all_no (v : Value) (w : World) (h : NoTab w v) :
    Calls Tryd.prog 30 #[v] w fun e w' => e = .returned (.tuple #[.slice none 0 0, .int .i64 70]) ∧ Below w.heap.size w w' := by
  have HT := Lib.hid h
  clear h
  go_enter Tryd.func30, Tryd.ntmps30
  go_wp2_with (first
    | (go_at_call 46; ((with_reducible refine (look_none v 0 _ HT.out).mono ?_)); rintro e w1 ⟨rfl, hb1⟩; have HB1 := Lib.hid hb1; clear hb1)
    | (refine wpList_store_new rfl 77 _ _ rfl _ (fcells (fun _ => false) 0) 77 rfl rfl (by rw [fcells_size]; exact Tryd.infoFinder) (by rfl) (fcells_one _ _) ?_; intro W2 bF bK hB2 hs2; have HB2 := Lib.hid (bstep HB1.out hB2); clear bK hB2 hs2))
  go_ret2
  exact ⟨rfl, HB2.out⟩
end Go.Proofs.YtanccoahpcfbnaaDoor
