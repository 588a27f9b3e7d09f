/-
  hole.look of no table; the holes of a finder, one by one, rising; what lay in memory stays.
-/
import Derived.Test.YtanccoahpcfbnaaDoorHoleA
import Derived.Test.YtanccoahpcfbnaaDoorHolePlain
namespace Go.Proofs.YtanccoahpcfbnaaDoor
open Go.RowKit Go.Lib Go.Shelf
attribute [local go_sem] Oper.semAt_some

set_option maxRecDepth 100000 in
theorem look_len (p : Option Addr) (n cap : Nat) (f : Int) (w : World) (hn : n ≠ 32) :
    Calls Tryd.prog 46 #[.slice p n cap, .int .i64 f] w fun e w' => e = .returned (.tuple #[.agg (fcells (fun _ => false) 0), .bool false]) ∧ Below w.heap.size w w' := by
  have HN := Lib.hid hn
  clear hn
  go_enter Tryd.func46, Tryd.ntmps46
  go_wp2_with (first
    | (go_at_call 41; ((with_reducible refine (right_len p n cap _ HN.out).mono ?_)); rintro e w1 ⟨rfl, hb1⟩; have bR : Blk w1 w.heap.size (fcells (fun _ => false) 0) 77 := (Blk.new w _ _).below' hb1; have HB1 := Lib.hid (bstep ((Below.refl _ w).alloc (Nat.le_refl _) _) hb1); clear hb1)
    | (refine wpList_store_blk rfl 77 _ _ rfl _ _ (fcells (fun _ => false) 0) 77 bR rfl rfl (by rw [fcells_size]; exact Tryd.infoFinder) (by simp only [fcells_size]) (fcells_one _ _) ?_; intro W4 bR4 bK4 hB4 hs4; have HB4 := Lib.hid (HB1.out.trans (hB4 _ (Nat.le_refl _))); clear bK4 hB4 hs4))
  have hrow := run_loadVar_row (P := Tryd.prog) W4 w.heap.size 77 77 _ (0, 0) _ bR4 Tryd.underlying77 rfl (by rw [fcells_size]; exact Tryd.infoFinder)
  exact bodyPost_ret (v := .tuple #[.agg (fcells (fun _ => false) 0), .bool false]) (res_cell_tmp rfl _ _ _ _ _ rfl rfl hrow) rfl ⟨rfl, HB4.out⟩

set_option maxRecDepth 100000 in
theorem look_not (b o cap : Nat) (z : Nat → Int) (f : Int) (w : World) (hT : Tab w b o z) (hr : rightT z = false) :
    Calls Tryd.prog 46 #[.slice (some ⟨b, o, none⟩) 32 cap, .int .i64 f] w fun e w' => e = .returned (.tuple #[.agg (fcells (fun _ => false) 0), .bool false]) ∧ Below w.heap.size w w' := by
  have HT := Lib.hid hT
  have HR := Lib.hid hr
  clear hT hr
  go_enter Tryd.func46, Tryd.ntmps46
  go_wp2_with (first
    | (go_at_call 41; ((with_reducible refine (right_no b o cap z _ ?_ HR.out).mono ?_)); exact HT.out.below ((Below.refl _ w).alloc (Nat.le_refl _) _); rintro e w1 ⟨rfl, hb1⟩; have bR : Blk w1 w.heap.size (fcells (fun _ => false) 0) 77 := (Blk.new w _ _).below' hb1; have HB1 := Lib.hid (bstep ((Below.refl _ w).alloc (Nat.le_refl _) _) hb1); clear hb1)
    | (refine wpList_store_blk rfl 77 _ _ rfl _ _ (fcells (fun _ => false) 0) 77 bR rfl rfl (by rw [fcells_size]; exact Tryd.infoFinder) (by simp only [fcells_size]) (fcells_one _ _) ?_; intro W4 bR4 bK4 hB4 hs4; have HB4 := Lib.hid (HB1.out.trans (hB4 _ (Nat.le_refl _))); clear bK4 hB4 hs4))
  have hrow := run_loadVar_row (P := Tryd.prog) W4 w.heap.size 77 77 _ (0, 0) _ bR4 Tryd.underlying77 rfl (by rw [fcells_size]; exact Tryd.infoFinder)
  exact bodyPost_ret (v := .tuple #[.agg (fcells (fun _ => false) 0), .bool false]) (res_cell_tmp rfl _ _ _ _ _ rfl rfl hrow) rfl ⟨rfl, HB4.out⟩

set_option maxRecDepth 100000 in
theorem holes_any (q : Nat → Bool) (f : Int) (w : World) : Calls Tryd.prog 47 #[.agg (fcells q f)] w fun e w' =>
    e = .returned (.func (.func 59) #[] #[.pointer (some ⟨w.heap.size, 0, none⟩)]) ∧ w' = w.alloc (.cells (fcells q f) 77) := by
  go_enter Tryd.func47, Tryd.ntmps47
  go_wp2
  go_ret
  exact ⟨rfl, rfl⟩

abbrev encH (x : Hl) : Array Value := #[.agg #[.int .i64 ((x.1.1 : Nat) : Int), .int .i64 ((x.1.2 : Nat) : Int)]]
end Go.Proofs.YtanccoahpcfbnaaDoor
