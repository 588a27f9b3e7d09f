/-
  addr.Split, for every number: its block, line and byte where it is an address, else the number of ErrAddr; what lay in memory stays.
-/
import Derived.Test.YtllippnkijkjlaaDoorAddrC
import Derived.Deep.RegionHeld3
import Derived.BigQuiet
import Derived.Deep.QuietTactic
import Derived.OwnWalk
import Derived.WalkSpells
namespace Go.Proofs.YtllippnkijkjlaaDoor
open Go.RowKit Go.Lib

theorem below_drewN {B : Nat} {a w : World} (h : Below B a w) (n : Nat) : Below B a (w.drewN n) := h.trans ⟨rfl, rfl, rfl, Nat.le_refl _, fun _ _ => rfl⟩
theorem right_yes (a : Int) (w : World) (h : 0 ≤ a) (h' : a < 131072) : Calls Tryd.prog 16 #[.int .i64 a] w fun e w' => e = .returned (.bool true) ∧ w = w' := by
  have := right_any a w; rwa [show rightB a = true by simp [rightB, h, h']] at this
theorem right_no (a : Int) (w : World) (h : a < 0 ∨ 131072 ≤ a) : Calls Tryd.prog 16 #[.int .i64 a] w fun e w' => e = .returned (.bool false) ∧ w = w' := by
  have := right_any a w; rwa [show rightB a = false by simp [rightB]; omega] at this
theorem isSize_yes (a : Int) (w : World) (h : 1 ≤ a) (h' : a ≤ 131072) : Calls Tryd.prog 33 #[.int .i64 a] w fun e w' => e = .returned (.bool true) ∧ w = w' := by
  have := isSize_any a w; rwa [show sizeB a = true by simp [sizeB, h, h']] at this
theorem isSize_no (a : Int) (w : World) (h : a < 1 ∨ 131072 < a) : Calls Tryd.prog 33 #[.int .i64 a] w fun e w' => e = .returned (.bool false) ∧ w = w' := by
  have := isSize_any a w; rwa [show sizeB a = false by simp [sizeB]; omega] at this

theorem chk1 (b : Bool) (X : Addr) (w : World) :
    ((((w.alloc (.cells #[.bool b] 4)).alloc (.cells #[.iface 69 (.pointer (some X))] 39)).alloc (.cells #[.func (.func 37) #[] #[.pointer (some ⟨w.heap.size, 0, none⟩), .pointer (some ⟨w.heap.size + 1, 0, none⟩)]] 36)).drew).cell? ⟨w.heap.size + 1 + 1, 0, none⟩ = some (.func (.func 37) #[] #[.pointer (some ⟨w.heap.size, 0, none⟩), .pointer (some ⟨w.heap.size + 1, 0, none⟩)]) ∧
    ((((w.alloc (.cells #[.bool b] 4)).alloc (.cells #[.iface 69 (.pointer (some X))] 39)).alloc (.cells #[.func (.func 37) #[] #[.pointer (some ⟨w.heap.size, 0, none⟩), .pointer (some ⟨w.heap.size + 1, 0, none⟩)]] 36)).drew).cell? ⟨w.heap.size, 0, none⟩ = some (.bool b) ∧
    ((((w.alloc (.cells #[.bool b] 4)).alloc (.cells #[.iface 69 (.pointer (some X))] 39)).alloc (.cells #[.func (.func 37) #[] #[.pointer (some ⟨w.heap.size, 0, none⟩), .pointer (some ⟨w.heap.size + 1, 0, none⟩)]] 36)).drew).cell? ⟨w.heap.size + 1, 0, none⟩ = some (.iface 69 (.pointer (some X))) ∧
    Below w.heap.size w ((((w.alloc (.cells #[.bool b] 4)).alloc (.cells #[.iface 69 (.pointer (some X))] 39)).alloc (.cells #[.func (.func 37) #[] #[.pointer (some ⟨w.heap.size, 0, none⟩), .pointer (some ⟨w.heap.size + 1, 0, none⟩)]] 36)).drew) := by
  refine ⟨cell_dr ?_, cell_dr (cell_al _ (cell_al _ ((Blk.new w _ _).cell rfl))), cell_dr (cell_al _ ?_), ((((Below.refl _ w).alloc (Nat.le_refl _) _).alloc (by simp) _).alloc (by simp; omega) _).drew⟩
  · have h := (Blk.new ((w.alloc (.cells #[.bool b] 4)).alloc (.cells #[.iface 69 (.pointer (some X))] 39)) #[.func (.func 37) #[] #[.pointer (some ⟨w.heap.size, 0, none⟩), .pointer (some ⟨w.heap.size + 1, 0, none⟩)]] 36).cell (k := 0) rfl
    rwa [World.size_alloc, World.size_alloc] at h
  · have h := (Blk.new (w.alloc (.cells #[.bool b] 4)) #[.iface 69 (.pointer (some X))] 39).cell (k := 0) rfl
    rwa [World.size_alloc] at h
theorem r1_yes (X : Addr) (w : World) :
    Calls Tryd.prog 30 #[.slice (some ⟨w.heap.size + 1 + 1, 0, none⟩) 1 1] ((((w.alloc (.cells #[.bool true] 4)).alloc (.cells #[.iface 69 (.pointer (some X))] 39)).alloc (.cells #[.func (.func 37) #[] #[.pointer (some ⟨w.heap.size, 0, none⟩), .pointer (some ⟨w.heap.size + 1, 0, none⟩)]] 36)).drew) fun e w' => e = .returned (.int .i64 0) ∧ (((w.alloc (.cells #[.bool true] 4)).alloc (.cells #[.iface 69 (.pointer (some X))] 39)).alloc (.cells #[.func (.func 37) #[] #[.pointer (some ⟨w.heap.size, 0, none⟩), .pointer (some ⟨w.heap.size + 1, 0, none⟩)]] 36)).drew = w' :=
  refused1_yes _ _ _ _ (chk1 true X w).1 (chk1 true X w).2.1
theorem r1_noA (w : World) (aA aS aR : Addr) (hV : AV w aA aS aR) :
    Calls Tryd.prog 30 #[.slice (some ⟨w.heap.size + 1 + 1, 0, none⟩) 1 1] ((((w.alloc (.cells #[.bool false] 4)).alloc (.cells #[.iface 69 (.pointer (some aA))] 39)).alloc (.cells #[.func (.func 37) #[] #[.pointer (some ⟨w.heap.size, 0, none⟩), .pointer (some ⟨w.heap.size + 1, 0, none⟩)]] 36)).drew) fun e w' => e = .returned (.int .i64 10) ∧ (((w.alloc (.cells #[.bool false] 4)).alloc (.cells #[.iface 69 (.pointer (some aA))] 39)).alloc (.cells #[.func (.func 37) #[] #[.pointer (some ⟨w.heap.size, 0, none⟩), .pointer (some ⟨w.heap.size + 1, 0, none⟩)]] 36)).drew = w' :=
  refused1_noA _ _ _ aA aS aR _ (hV.below (chk1 false aA w).2.2.2) (chk1 false aA w).1 (chk1 false aA w).2.1 (chk1 false aA w).2.2.1
theorem r1_noS (w : World) (aA aS aR : Addr) (hV : AV w aA aS aR) :
    Calls Tryd.prog 30 #[.slice (some ⟨w.heap.size + 1 + 1, 0, none⟩) 1 1] ((((w.alloc (.cells #[.bool false] 4)).alloc (.cells #[.iface 69 (.pointer (some aS))] 39)).alloc (.cells #[.func (.func 37) #[] #[.pointer (some ⟨w.heap.size, 0, none⟩), .pointer (some ⟨w.heap.size + 1, 0, none⟩)]] 36)).drew) fun e w' => e = .returned (.int .i64 11) ∧ (((w.alloc (.cells #[.bool false] 4)).alloc (.cells #[.iface 69 (.pointer (some aS))] 39)).alloc (.cells #[.func (.func 37) #[] #[.pointer (some ⟨w.heap.size, 0, none⟩), .pointer (some ⟨w.heap.size + 1, 0, none⟩)]] 36)).drew = w' :=
  refused1_noS _ _ _ aA aS aR _ (hV.below (chk1 false aS w).2.2.2) (chk1 false aS w).1 (chk1 false aS w).2.1 (chk1 false aS w).2.2.1
theorem r1_noR (w : World) (aA aS aR : Addr) (hV : AV w aA aS aR) :
    Calls Tryd.prog 30 #[.slice (some ⟨w.heap.size + 1 + 1, 0, none⟩) 1 1] ((((w.alloc (.cells #[.bool false] 4)).alloc (.cells #[.iface 69 (.pointer (some aR))] 39)).alloc (.cells #[.func (.func 37) #[] #[.pointer (some ⟨w.heap.size, 0, none⟩), .pointer (some ⟨w.heap.size + 1, 0, none⟩)]] 36)).drew) fun e w' => e = .returned (.int .i64 12) ∧ (((w.alloc (.cells #[.bool false] 4)).alloc (.cells #[.iface 69 (.pointer (some aR))] 39)).alloc (.cells #[.func (.func 37) #[] #[.pointer (some ⟨w.heap.size, 0, none⟩), .pointer (some ⟨w.heap.size + 1, 0, none⟩)]] 36)).drew = w' :=
  refused1_noR _ _ _ aA aS aR _ (hV.below (chk1 false aR w).2.2.2) (chk1 false aR w).1 (chk1 false aR w).2.1 (chk1 false aR w).2.2.1

set_option maxRecDepth 100000 in
set_option maxHeartbeats 1000000 in
theorem split_no (a : Int) (w : World) (aA aS aR : Addr) (hV : AV w aA aS aR) (h : a < 0 ∨ 131072 ≤ a) :
    Calls Tryd.prog 12 #[.int .i64 a] w fun e w' => e = .returned (.tuple #[.int .i64 0, .int .i64 0, .int .i64 0, .int .i64 10]) ∧ Below w.heap.size w w' := by
  have cA := hV.cA.1
  have H := Lib.hid h
  clear h
  go_enter Tryd.func12, Tryd.ntmps12
  go_wp2_with fail
  go_region_held3 (fun w' => w'.cell? ⟨0, 0, none⟩ = some (.iface 69 (.pointer (some aA))))
    (first | (show World.cell? _ _ = _; repeat' (first | exact cA | refine cell_dr ?_ | refine cell_al _ ?_)))
    (first
      | (go_at_call 16; refine (right_no a _ H.out).mono ?_; rintro e w' ⟨rfl, rfl⟩)
      | (go_at_call 31; refine (unless_any _ aA _).mono ?_; rintro e w' ⟨rfl, rfl⟩)
      | (go_at_call 30; refine (r1_noA w aA aS aR hV).mono ?_; rintro e w' ⟨rfl, rfl⟩))
  go_wp2
  exact bodyPost_ret (v := .tuple #[.int .i64 0, .int .i64 0, .int .i64 0, .int .i64 10]) (by simp [results, Tryd.results12, go_sem]) rfl ⟨rfl, (chk1 false aA w).2.2.2⟩

theorem chk1p (b : Bool) (X : Addr) (w : World) :
    (((w.alloc (.cells #[.bool b] 4)).alloc (.cells #[.iface 69 (.pointer (some X))] 39)).alloc (.cells #[.func (.func 37) #[] #[.pointer (some ⟨w.heap.size, 0, none⟩), .pointer (some ⟨w.heap.size + 1, 0, none⟩)]] 36)).cell? ⟨w.heap.size + 1 + 1, 0, none⟩ = some (.func (.func 37) #[] #[.pointer (some ⟨w.heap.size, 0, none⟩), .pointer (some ⟨w.heap.size + 1, 0, none⟩)]) ∧
    (((w.alloc (.cells #[.bool b] 4)).alloc (.cells #[.iface 69 (.pointer (some X))] 39)).alloc (.cells #[.func (.func 37) #[] #[.pointer (some ⟨w.heap.size, 0, none⟩), .pointer (some ⟨w.heap.size + 1, 0, none⟩)]] 36)).cell? ⟨w.heap.size, 0, none⟩ = some (.bool b) ∧
    (((w.alloc (.cells #[.bool b] 4)).alloc (.cells #[.iface 69 (.pointer (some X))] 39)).alloc (.cells #[.func (.func 37) #[] #[.pointer (some ⟨w.heap.size, 0, none⟩), .pointer (some ⟨w.heap.size + 1, 0, none⟩)]] 36)).cell? ⟨w.heap.size + 1, 0, none⟩ = some (.iface 69 (.pointer (some X))) ∧
    Below w.heap.size w (((w.alloc (.cells #[.bool b] 4)).alloc (.cells #[.iface 69 (.pointer (some X))] 39)).alloc (.cells #[.func (.func 37) #[] #[.pointer (some ⟨w.heap.size, 0, none⟩), .pointer (some ⟨w.heap.size + 1, 0, none⟩)]] 36)) := by
  refine ⟨?_, cell_al _ (cell_al _ ((Blk.new w _ _).cell rfl)), cell_al _ ?_, (((Below.refl _ w).alloc (Nat.le_refl _) _).alloc (by simp) _).alloc (by simp; omega) _⟩
  · have h := (Blk.new ((w.alloc (.cells #[.bool b] 4)).alloc (.cells #[.iface 69 (.pointer (some X))] 39)) #[.func (.func 37) #[] #[.pointer (some ⟨w.heap.size, 0, none⟩), .pointer (some ⟨w.heap.size + 1, 0, none⟩)]] 36).cell (k := 0) rfl
    rwa [World.size_alloc, World.size_alloc] at h
  · have h := (Blk.new (w.alloc (.cells #[.bool b] 4)) #[.iface 69 (.pointer (some X))] 39).cell (k := 0) rfl
    rwa [World.size_alloc] at h
theorem p1_yes (X : Addr) (w : World) :
    Calls Tryd.prog 30 #[.slice (some ⟨w.heap.size + 1 + 1, 0, none⟩) 1 1] (((w.alloc (.cells #[.bool true] 4)).alloc (.cells #[.iface 69 (.pointer (some X))] 39)).alloc (.cells #[.func (.func 37) #[] #[.pointer (some ⟨w.heap.size, 0, none⟩), .pointer (some ⟨w.heap.size + 1, 0, none⟩)]] 36)) fun e w' => e = .returned (.int .i64 0) ∧ ((w.alloc (.cells #[.bool true] 4)).alloc (.cells #[.iface 69 (.pointer (some X))] 39)).alloc (.cells #[.func (.func 37) #[] #[.pointer (some ⟨w.heap.size, 0, none⟩), .pointer (some ⟨w.heap.size + 1, 0, none⟩)]] 36) = w' :=
  refused1_yes _ _ _ _ (chk1p true X w).1 (chk1p true X w).2.1
theorem p1_noA (w : World) (aA aS aR : Addr) (hV : AV w aA aS aR) :
    Calls Tryd.prog 30 #[.slice (some ⟨w.heap.size + 1 + 1, 0, none⟩) 1 1] (((w.alloc (.cells #[.bool false] 4)).alloc (.cells #[.iface 69 (.pointer (some aA))] 39)).alloc (.cells #[.func (.func 37) #[] #[.pointer (some ⟨w.heap.size, 0, none⟩), .pointer (some ⟨w.heap.size + 1, 0, none⟩)]] 36)) fun e w' => e = .returned (.int .i64 10) ∧ ((w.alloc (.cells #[.bool false] 4)).alloc (.cells #[.iface 69 (.pointer (some aA))] 39)).alloc (.cells #[.func (.func 37) #[] #[.pointer (some ⟨w.heap.size, 0, none⟩), .pointer (some ⟨w.heap.size + 1, 0, none⟩)]] 36) = w' :=
  refused1_noA _ _ _ aA aS aR _ (hV.below (chk1p false aA w).2.2.2) (chk1p false aA w).1 (chk1p false aA w).2.1 (chk1p false aA w).2.2.1
theorem p1_noS (w : World) (aA aS aR : Addr) (hV : AV w aA aS aR) :
    Calls Tryd.prog 30 #[.slice (some ⟨w.heap.size + 1 + 1, 0, none⟩) 1 1] (((w.alloc (.cells #[.bool false] 4)).alloc (.cells #[.iface 69 (.pointer (some aS))] 39)).alloc (.cells #[.func (.func 37) #[] #[.pointer (some ⟨w.heap.size, 0, none⟩), .pointer (some ⟨w.heap.size + 1, 0, none⟩)]] 36)) fun e w' => e = .returned (.int .i64 11) ∧ ((w.alloc (.cells #[.bool false] 4)).alloc (.cells #[.iface 69 (.pointer (some aS))] 39)).alloc (.cells #[.func (.func 37) #[] #[.pointer (some ⟨w.heap.size, 0, none⟩), .pointer (some ⟨w.heap.size + 1, 0, none⟩)]] 36) = w' :=
  refused1_noS _ _ _ aA aS aR _ (hV.below (chk1p false aS w).2.2.2) (chk1p false aS w).1 (chk1p false aS w).2.1 (chk1p false aS w).2.2.1
theorem p1_noR (w : World) (aA aS aR : Addr) (hV : AV w aA aS aR) :
    Calls Tryd.prog 30 #[.slice (some ⟨w.heap.size + 1 + 1, 0, none⟩) 1 1] (((w.alloc (.cells #[.bool false] 4)).alloc (.cells #[.iface 69 (.pointer (some aR))] 39)).alloc (.cells #[.func (.func 37) #[] #[.pointer (some ⟨w.heap.size, 0, none⟩), .pointer (some ⟨w.heap.size + 1, 0, none⟩)]] 36)) fun e w' => e = .returned (.int .i64 12) ∧ ((w.alloc (.cells #[.bool false] 4)).alloc (.cells #[.iface 69 (.pointer (some aR))] 39)).alloc (.cells #[.func (.func 37) #[] #[.pointer (some ⟨w.heap.size, 0, none⟩), .pointer (some ⟨w.heap.size + 1, 0, none⟩)]] 36) = w' :=
  refused1_noR _ _ _ aA aS aR _ (hV.below (chk1p false aR w).2.2.2) (chk1p false aR w).1 (chk1p false aR w).2.1 (chk1p false aR w).2.2.1
theorem place3_yes (a : Int) (h : 0 ≤ a) (h' : a < 131072) : place3 a = #[.int .i64 (a / 4096), .int .i64 (a % 4096 / 128), .int .i64 (a % 128)] := by
  have e1 : a.tdiv 4096 = a / 4096 := Int.tdiv_eq_ediv_of_nonneg h
  have e2 : a.tmod 4096 = a % 4096 := Int.tmod_eq_emod_of_nonneg h
  have e3 : a.tmod 128 = a % 128 := Int.tmod_eq_emod_of_nonneg h
  have e4 : (a % 4096).tdiv 128 = a % 4096 / 128 := Int.tdiv_eq_ediv_of_nonneg (by omega)
  rw [place3, e1, e2, e3, e4, IntWalk.wrap64_in _ ⟨by omega, by omega⟩, IntWalk.wrap64_in _ ⟨by omega, by omega⟩, IntWalk.wrap64_in _ ⟨by omega, by omega⟩]
theorem find_yes (a : Int) (w : World) (aA aS aR : Addr) (hV : AV w aA aS aR) (h : 0 ≤ a) (h' : a < 131072) :
    Calls Tryd.prog 32 #[.int .i64 a] w fun e w' => e = .returned (.agg #[.int .i64 (a / 4096), .int .i64 (a % 4096 / 128), .int .i64 (a % 128)]) ∧ Below w.heap.size w w' := by
  have := find_any a w aA aS aR hV; rwa [place3_yes a h h'] at this

set_option maxRecDepth 100000 in
set_option maxHeartbeats 1000000 in
theorem split_yes (a : Int) (w : World) (aA aS aR : Addr) (hV : AV w aA aS aR) (h : 0 ≤ a) (h' : a < 131072) :
    Calls Tryd.prog 12 #[.int .i64 a] w fun e w' => e = .returned (.tuple #[.int .i64 (a / 4096), .int .i64 (a % 4096 / 128), .int .i64 (a % 128), .int .i64 0]) ∧ Below w.heap.size w w' := by
  have cA := hV.cA.1
  go_enter Tryd.func12, Tryd.ntmps12
  go_wp2_with fail
  go_region_held3 (fun w' => w'.cell? ⟨0, 0, none⟩ = some (.iface 69 (.pointer (some aA))))
    (first | (show World.cell? _ _ = _; repeat' (first | exact cA | refine cell_dr ?_ | refine cell_al _ ?_)))
    (first
      | (go_at_call 16; refine (right_yes a _ h h').mono ?_; rintro e w' ⟨rfl, rfl⟩)
      | (go_at_call 31; refine (unless_any _ aA _).mono ?_; rintro e w' ⟨rfl, rfl⟩)
      | (go_at_call 30; refine (r1_yes aA w).mono ?_; rintro e w' ⟨rfl, rfl⟩))
  have hb1 := (chk1 true aA w).2.2.2
  have HB1 := Lib.hid hb1
  clear hb1 cA
  go_wp2_with (go_at_call 32; refine (find_yes a _ aA aS aR (hV.below HB1.out) h h').mono ?_; rintro e w' ⟨rfl, hb2⟩)
  have HB2 := Lib.hid (bstep HB1.out hb2)
  clear hb2
  go_quiet (fail)
  go_wp2
  refine bodyPost_ret (v := .tuple #[.int .i64 (a / 4096), .int .i64 (a % 4096 / 128), .int .i64 (a % 128), .int .i64 0]) (by simp [results, Tryd.results12, go_sem]) rfl ⟨rfl, below_drewN (HB2.out.alloc HB2.out.size _) _⟩
end Go.Proofs.YtllippnkijkjlaaDoor
