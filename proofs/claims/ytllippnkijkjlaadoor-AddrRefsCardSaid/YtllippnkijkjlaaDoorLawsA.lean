/-
  The statements of chapter 1 that hold the program against the reference, walked: each returns true for every number, and what lay in memory stays.
-/
import Derived.Test.YtllippnkijkjlaaDoorEq
namespace Go.Proofs.YtllippnkijkjlaaDoor
open Go.RowKit Go.Lib

set_option maxRecDepth 100000 in
set_option maxHeartbeats 1000000 in
theorem lawAddrPlaces (a b l t : Int) (w : World) (aA aS aR : Addr) (hV : AV w aA aS aR) :
    Calls Tryd.prog 3 #[.int .i64 a, .int .i64 b, .int .i64 l, .int .i64 t] w fun e w' => e = .returned (.bool true) ∧ Below w.heap.size w w' := by
  obtain ⟨x1, x2, x3, x4, p1, r1⟩ := split_eq a
  have P1 := Lib.hid p1
  have R1 := Lib.hid r1
  clear p1 r1
  obtain ⟨y1, y2, p2, r2⟩ := join_eq b l t
  have P2 := Lib.hid p2
  have R2 := Lib.hid r2
  clear p2 r2
  have HB := Lib.hid (Below.refl w.heap.size w)
  go_enter Tryd.func3, Tryd.ntmps3
  go_wp2_with (first
    | (go_at_call 11; ((with_reducible refine (shown_any _ aA aS aR hV).mono ?_)); rintro e w' ⟨rfl, hb⟩; replace hV := hV.below hb; replace HB := Lib.hid (bstep HB.out hb); clear hb)
    | (go_at_call 12; ((with_reducible refine (P1.out _ aA aS aR hV).mono ?_)); rintro e w' ⟨rfl, hb⟩; replace hV := hV.below hb; replace HB := Lib.hid (bstep HB.out hb); clear hb)
    | (go_at_call 13; ((with_reducible refine (R1.out _).mono ?_)); rintro e w' ⟨rfl, rfl⟩)
    | (go_at_call 14; ((with_reducible refine (P2.out _ aA aS aR hV).mono ?_)); rintro e w' ⟨rfl, hb⟩; replace hV := hV.below hb; replace HB := Lib.hid (bstep HB.out hb); clear hb)
    | (go_at_call 15; ((with_reducible refine (R2.out _).mono ?_)); rintro e w' ⟨rfl, rfl⟩)
    | (go_at_call 16; ((with_reducible refine (right_any _ _).mono ?_)); rintro e w' ⟨rfl, rfl⟩)
    | (go_at_call 17; ((with_reducible refine (rright_any _ _).mono ?_)); rintro e w' ⟨rfl, rfl⟩))
  go_ret
  exact ⟨rfl, HB.out⟩

set_option maxRecDepth 100000 in
set_option maxHeartbeats 1000000 in
theorem lawAddrSizes (n : Int) (w : World) (aA aS aR : Addr) (hV : AV w aA aS aR) :
    Calls Tryd.prog 5 #[.int .i64 n] w fun e w' => e = .returned (.bool true) ∧ Below w.heap.size w w' := by
  obtain ⟨x1, x2, p1, r1⟩ := round_eq n
  have P1 := Lib.hid p1
  have R1 := Lib.hid r1
  clear p1 r1
  obtain ⟨y1, y2, p2, r2⟩ := class_eq n
  have P2 := Lib.hid p2
  have R2 := Lib.hid r2
  clear p2 r2
  obtain ⟨z1, z2, p3, r3⟩ := blocks_eq n
  have P3 := Lib.hid p3
  have R3 := Lib.hid r3
  clear p3 r3
  have HB := Lib.hid (Below.refl w.heap.size w)
  go_enter Tryd.func5, Tryd.ntmps5
  go_wp2_with (first
    | (go_at_call 11; ((with_reducible refine (shown_any _ aA aS aR hV).mono ?_)); rintro e w' ⟨rfl, hb⟩; replace hV := hV.below hb; replace HB := Lib.hid (bstep HB.out hb); clear hb)
    | (go_at_call 18; ((with_reducible refine (P1.out _ aA aS aR hV).mono ?_)); rintro e w' ⟨rfl, hb⟩; replace hV := hV.below hb; replace HB := Lib.hid (bstep HB.out hb); clear hb)
    | (go_at_call 19; ((with_reducible refine (R1.out _).mono ?_)); rintro e w' ⟨rfl, rfl⟩)
    | (go_at_call 20; ((with_reducible refine (P2.out _ aA aS aR hV).mono ?_)); rintro e w' ⟨rfl, hb⟩; replace hV := hV.below hb; replace HB := Lib.hid (bstep HB.out hb); clear hb)
    | (go_at_call 21; ((with_reducible refine (R2.out _).mono ?_)); rintro e w' ⟨rfl, rfl⟩)
    | (go_at_call 22; ((with_reducible refine (P3.out _ aA aS aR hV).mono ?_)); rintro e w' ⟨rfl, hb⟩; replace hV := hV.below hb; replace HB := Lib.hid (bstep HB.out hb); clear hb)
    | (go_at_call 23; ((with_reducible refine (R3.out _).mono ?_)); rintro e w' ⟨rfl, rfl⟩))
  go_ret
  exact ⟨rfl, HB.out⟩

set_option maxRecDepth 100000 in
set_option maxHeartbeats 1000000 in
theorem lawAddrRefs (a r n : Int) (w : World) (aA aS aR : Addr) (hV : AV w aA aS aR) :
    Calls Tryd.prog 10 #[.int .i64 a, .int .i64 r, .int .i64 n] w fun e w' => e = .returned (.bool true) ∧ Below w.heap.size w w' := by
  obtain ⟨x1, x2, p1, r1⟩ := ref_eq a
  have P1 := Lib.hid p1
  have R1 := Lib.hid r1
  clear p1 r1
  obtain ⟨y1, y2, p2, r2⟩ := addr_eq r
  have P2 := Lib.hid p2
  have R2 := Lib.hid r2
  clear p2 r2
  obtain ⟨z1, z2, z3, p3, r3⟩ := span_eq a n
  have P3 := Lib.hid p3
  have R3 := Lib.hid r3
  clear p3 r3
  have HB := Lib.hid (Below.refl w.heap.size w)
  go_enter Tryd.func10, Tryd.ntmps10
  go_wp2_with (first
    | (go_at_call 11; ((with_reducible refine (shown_any _ aA aS aR hV).mono ?_)); rintro e w' ⟨rfl, hb⟩; replace hV := hV.below hb; replace HB := Lib.hid (bstep HB.out hb); clear hb)
    | (go_at_call 24; ((with_reducible refine (P1.out _ aA aS aR hV).mono ?_)); rintro e w' ⟨rfl, hb⟩; replace hV := hV.below hb; replace HB := Lib.hid (bstep HB.out hb); clear hb)
    | (go_at_call 27; ((with_reducible refine (R1.out _).mono ?_)); rintro e w' ⟨rfl, rfl⟩)
    | (go_at_call 25; ((with_reducible refine (P2.out _ aA aS aR hV).mono ?_)); rintro e w' ⟨rfl, hb⟩; replace hV := hV.below hb; replace HB := Lib.hid (bstep HB.out hb); clear hb)
    | (go_at_call 28; ((with_reducible refine (R2.out _).mono ?_)); rintro e w' ⟨rfl, rfl⟩)
    | (go_at_call 26; ((with_reducible refine (P3.out _ aA aS aR hV).mono ?_)); rintro e w' ⟨rfl, hb⟩; replace hV := hV.below hb; replace HB := Lib.hid (bstep HB.out hb); clear hb)
    | (go_at_call 29; ((with_reducible refine (R3.out _).mono ?_)); rintro e w' ⟨rfl, rfl⟩))
  go_ret
  exact ⟨rfl, HB.out⟩

end Go.Proofs.YtllippnkijkjlaaDoor
