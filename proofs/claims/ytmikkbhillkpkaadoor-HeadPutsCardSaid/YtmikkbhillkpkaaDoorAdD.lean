/-
  One check, laid and asked.
-/
import Derived.Test.YtmikkbhillkpkaaDoorAdB
import Derived.Deep.RegionHeld3
import Derived.BigQuiet
import Derived.Deep.QuietTactic
import Derived.OwnWalk
import Derived.WalkSpells
namespace Go.Proofs.YtmikkbhillkpkaaDoor.Ad
open Go.RowKit Go.Lib

theorem below_drewN {B : Nat} {a w : World} (h : Below B a w) (n : Nat) : Below B a (w.drewN n) := h.trans ⟨rfl, rfl, rfl, Nat.le_refl _, fun _ _ => rfl⟩
theorem right_yes (a : Int) (w : World) (h : 0 ≤ a) (h' : a < 131072) : Calls Tryd.prog 51 #[.int .i64 a] w fun e w' => e = .returned (.bool true) ∧ w = w' := by
  have := right_any a w; rwa [show rightB a = true by simp [rightB, h, h']] at this
theorem right_no (a : Int) (w : World) (h : a < 0 ∨ 131072 ≤ a) : Calls Tryd.prog 51 #[.int .i64 a] w fun e w' => e = .returned (.bool false) ∧ w = w' := by
  have := right_any a w; rwa [show rightB a = false by simp [rightB]; omega] at this
theorem chk1 (b : Bool) (X : Addr) (w : World) :
    ((((w.alloc (.cells #[.bool b] 4)).alloc (.cells #[.iface 118 (.pointer (some X))] 57)).alloc (.cells #[.func (.func 57) #[] #[.pointer (some ⟨w.heap.size, 0, none⟩), .pointer (some ⟨w.heap.size + 1, 0, none⟩)]] 95)).drew).cell? ⟨w.heap.size + 1 + 1, 0, none⟩ = some (.func (.func 57) #[] #[.pointer (some ⟨w.heap.size, 0, none⟩), .pointer (some ⟨w.heap.size + 1, 0, none⟩)]) ∧
    ((((w.alloc (.cells #[.bool b] 4)).alloc (.cells #[.iface 118 (.pointer (some X))] 57)).alloc (.cells #[.func (.func 57) #[] #[.pointer (some ⟨w.heap.size, 0, none⟩), .pointer (some ⟨w.heap.size + 1, 0, none⟩)]] 95)).drew).cell? ⟨w.heap.size, 0, none⟩ = some (.bool b) ∧
    ((((w.alloc (.cells #[.bool b] 4)).alloc (.cells #[.iface 118 (.pointer (some X))] 57)).alloc (.cells #[.func (.func 57) #[] #[.pointer (some ⟨w.heap.size, 0, none⟩), .pointer (some ⟨w.heap.size + 1, 0, none⟩)]] 95)).drew).cell? ⟨w.heap.size + 1, 0, none⟩ = some (.iface 118 (.pointer (some X))) ∧
    Below w.heap.size w ((((w.alloc (.cells #[.bool b] 4)).alloc (.cells #[.iface 118 (.pointer (some X))] 57)).alloc (.cells #[.func (.func 57) #[] #[.pointer (some ⟨w.heap.size, 0, none⟩), .pointer (some ⟨w.heap.size + 1, 0, none⟩)]] 95)).drew) := by
  refine ⟨cell_dr ?_, cell_dr (cell_al _ (cell_al _ ((Blk.new w _ _).cell rfl))), cell_dr (cell_al _ ?_), ((((Below.refl _ w).alloc (Nat.le_refl _) _).alloc (by simp) _).alloc (by simp; omega) _).drew⟩
  · have h := (Blk.new ((w.alloc (.cells #[.bool b] 4)).alloc (.cells #[.iface 118 (.pointer (some X))] 57)) #[.func (.func 57) #[] #[.pointer (some ⟨w.heap.size, 0, none⟩), .pointer (some ⟨w.heap.size + 1, 0, none⟩)]] 95).cell (k := 0) rfl
    rwa [World.size_alloc, World.size_alloc] at h
  · have h := (Blk.new (w.alloc (.cells #[.bool b] 4)) #[.iface 118 (.pointer (some X))] 57).cell (k := 0) rfl
    rwa [World.size_alloc] at h
theorem r1_yes (X : Addr) (w : World) :
    Calls Tryd.prog 49 #[.slice (some ⟨w.heap.size + 1 + 1, 0, none⟩) 1 1] ((((w.alloc (.cells #[.bool true] 4)).alloc (.cells #[.iface 118 (.pointer (some X))] 57)).alloc (.cells #[.func (.func 57) #[] #[.pointer (some ⟨w.heap.size, 0, none⟩), .pointer (some ⟨w.heap.size + 1, 0, none⟩)]] 95)).drew) fun e w' => e = .returned (.int .i64 0) ∧ (((w.alloc (.cells #[.bool true] 4)).alloc (.cells #[.iface 118 (.pointer (some X))] 57)).alloc (.cells #[.func (.func 57) #[] #[.pointer (some ⟨w.heap.size, 0, none⟩), .pointer (some ⟨w.heap.size + 1, 0, none⟩)]] 95)).drew = w' :=
  refused1_yes _ _ _ _ (chk1 true X w).1 (chk1 true X w).2.1
theorem r1_noA (w : World) (aA aS aR : Addr) (hV : AV w aA aS aR) :
    Calls Tryd.prog 49 #[.slice (some ⟨w.heap.size + 1 + 1, 0, none⟩) 1 1] ((((w.alloc (.cells #[.bool false] 4)).alloc (.cells #[.iface 118 (.pointer (some aA))] 57)).alloc (.cells #[.func (.func 57) #[] #[.pointer (some ⟨w.heap.size, 0, none⟩), .pointer (some ⟨w.heap.size + 1, 0, none⟩)]] 95)).drew) fun e w' => e = .returned (.int .i64 10) ∧ (((w.alloc (.cells #[.bool false] 4)).alloc (.cells #[.iface 118 (.pointer (some aA))] 57)).alloc (.cells #[.func (.func 57) #[] #[.pointer (some ⟨w.heap.size, 0, none⟩), .pointer (some ⟨w.heap.size + 1, 0, none⟩)]] 95)).drew = w' :=
  refused1_noA _ _ _ aA aS aR _ (hV.below (chk1 false aA w).2.2.2) (chk1 false aA w).1 (chk1 false aA w).2.1 (chk1 false aA w).2.2.1
theorem r1_noS (w : World) (aA aS aR : Addr) (hV : AV w aA aS aR) :
    Calls Tryd.prog 49 #[.slice (some ⟨w.heap.size + 1 + 1, 0, none⟩) 1 1] ((((w.alloc (.cells #[.bool false] 4)).alloc (.cells #[.iface 118 (.pointer (some aS))] 57)).alloc (.cells #[.func (.func 57) #[] #[.pointer (some ⟨w.heap.size, 0, none⟩), .pointer (some ⟨w.heap.size + 1, 0, none⟩)]] 95)).drew) fun e w' => e = .returned (.int .i64 11) ∧ (((w.alloc (.cells #[.bool false] 4)).alloc (.cells #[.iface 118 (.pointer (some aS))] 57)).alloc (.cells #[.func (.func 57) #[] #[.pointer (some ⟨w.heap.size, 0, none⟩), .pointer (some ⟨w.heap.size + 1, 0, none⟩)]] 95)).drew = w' :=
  refused1_noS _ _ _ aA aS aR _ (hV.below (chk1 false aS w).2.2.2) (chk1 false aS w).1 (chk1 false aS w).2.1 (chk1 false aS w).2.2.1
theorem r1_noR (w : World) (aA aS aR : Addr) (hV : AV w aA aS aR) :
    Calls Tryd.prog 49 #[.slice (some ⟨w.heap.size + 1 + 1, 0, none⟩) 1 1] ((((w.alloc (.cells #[.bool false] 4)).alloc (.cells #[.iface 118 (.pointer (some aR))] 57)).alloc (.cells #[.func (.func 57) #[] #[.pointer (some ⟨w.heap.size, 0, none⟩), .pointer (some ⟨w.heap.size + 1, 0, none⟩)]] 95)).drew) fun e w' => e = .returned (.int .i64 12) ∧ (((w.alloc (.cells #[.bool false] 4)).alloc (.cells #[.iface 118 (.pointer (some aR))] 57)).alloc (.cells #[.func (.func 57) #[] #[.pointer (some ⟨w.heap.size, 0, none⟩), .pointer (some ⟨w.heap.size + 1, 0, none⟩)]] 95)).drew = w' :=
  refused1_noR _ _ _ aA aS aR _ (hV.below (chk1 false aR w).2.2.2) (chk1 false aR w).1 (chk1 false aR w).2.1 (chk1 false aR w).2.2.1
theorem chk1p (b : Bool) (X : Addr) (w : World) :
    (((w.alloc (.cells #[.bool b] 4)).alloc (.cells #[.iface 118 (.pointer (some X))] 57)).alloc (.cells #[.func (.func 57) #[] #[.pointer (some ⟨w.heap.size, 0, none⟩), .pointer (some ⟨w.heap.size + 1, 0, none⟩)]] 95)).cell? ⟨w.heap.size + 1 + 1, 0, none⟩ = some (.func (.func 57) #[] #[.pointer (some ⟨w.heap.size, 0, none⟩), .pointer (some ⟨w.heap.size + 1, 0, none⟩)]) ∧
    (((w.alloc (.cells #[.bool b] 4)).alloc (.cells #[.iface 118 (.pointer (some X))] 57)).alloc (.cells #[.func (.func 57) #[] #[.pointer (some ⟨w.heap.size, 0, none⟩), .pointer (some ⟨w.heap.size + 1, 0, none⟩)]] 95)).cell? ⟨w.heap.size, 0, none⟩ = some (.bool b) ∧
    (((w.alloc (.cells #[.bool b] 4)).alloc (.cells #[.iface 118 (.pointer (some X))] 57)).alloc (.cells #[.func (.func 57) #[] #[.pointer (some ⟨w.heap.size, 0, none⟩), .pointer (some ⟨w.heap.size + 1, 0, none⟩)]] 95)).cell? ⟨w.heap.size + 1, 0, none⟩ = some (.iface 118 (.pointer (some X))) ∧
    Below w.heap.size w (((w.alloc (.cells #[.bool b] 4)).alloc (.cells #[.iface 118 (.pointer (some X))] 57)).alloc (.cells #[.func (.func 57) #[] #[.pointer (some ⟨w.heap.size, 0, none⟩), .pointer (some ⟨w.heap.size + 1, 0, none⟩)]] 95)) := by
  refine ⟨?_, cell_al _ (cell_al _ ((Blk.new w _ _).cell rfl)), cell_al _ ?_, (((Below.refl _ w).alloc (Nat.le_refl _) _).alloc (by simp) _).alloc (by simp; omega) _⟩
  · have h := (Blk.new ((w.alloc (.cells #[.bool b] 4)).alloc (.cells #[.iface 118 (.pointer (some X))] 57)) #[.func (.func 57) #[] #[.pointer (some ⟨w.heap.size, 0, none⟩), .pointer (some ⟨w.heap.size + 1, 0, none⟩)]] 95).cell (k := 0) rfl
    rwa [World.size_alloc, World.size_alloc] at h
  · have h := (Blk.new (w.alloc (.cells #[.bool b] 4)) #[.iface 118 (.pointer (some X))] 57).cell (k := 0) rfl
    rwa [World.size_alloc] at h
theorem p1_yes (X : Addr) (w : World) :
    Calls Tryd.prog 49 #[.slice (some ⟨w.heap.size + 1 + 1, 0, none⟩) 1 1] (((w.alloc (.cells #[.bool true] 4)).alloc (.cells #[.iface 118 (.pointer (some X))] 57)).alloc (.cells #[.func (.func 57) #[] #[.pointer (some ⟨w.heap.size, 0, none⟩), .pointer (some ⟨w.heap.size + 1, 0, none⟩)]] 95)) fun e w' => e = .returned (.int .i64 0) ∧ ((w.alloc (.cells #[.bool true] 4)).alloc (.cells #[.iface 118 (.pointer (some X))] 57)).alloc (.cells #[.func (.func 57) #[] #[.pointer (some ⟨w.heap.size, 0, none⟩), .pointer (some ⟨w.heap.size + 1, 0, none⟩)]] 95) = w' :=
  refused1_yes _ _ _ _ (chk1p true X w).1 (chk1p true X w).2.1
theorem p1_noA (w : World) (aA aS aR : Addr) (hV : AV w aA aS aR) :
    Calls Tryd.prog 49 #[.slice (some ⟨w.heap.size + 1 + 1, 0, none⟩) 1 1] (((w.alloc (.cells #[.bool false] 4)).alloc (.cells #[.iface 118 (.pointer (some aA))] 57)).alloc (.cells #[.func (.func 57) #[] #[.pointer (some ⟨w.heap.size, 0, none⟩), .pointer (some ⟨w.heap.size + 1, 0, none⟩)]] 95)) fun e w' => e = .returned (.int .i64 10) ∧ ((w.alloc (.cells #[.bool false] 4)).alloc (.cells #[.iface 118 (.pointer (some aA))] 57)).alloc (.cells #[.func (.func 57) #[] #[.pointer (some ⟨w.heap.size, 0, none⟩), .pointer (some ⟨w.heap.size + 1, 0, none⟩)]] 95) = w' :=
  refused1_noA _ _ _ aA aS aR _ (hV.below (chk1p false aA w).2.2.2) (chk1p false aA w).1 (chk1p false aA w).2.1 (chk1p false aA w).2.2.1
theorem p1_noS (w : World) (aA aS aR : Addr) (hV : AV w aA aS aR) :
    Calls Tryd.prog 49 #[.slice (some ⟨w.heap.size + 1 + 1, 0, none⟩) 1 1] (((w.alloc (.cells #[.bool false] 4)).alloc (.cells #[.iface 118 (.pointer (some aS))] 57)).alloc (.cells #[.func (.func 57) #[] #[.pointer (some ⟨w.heap.size, 0, none⟩), .pointer (some ⟨w.heap.size + 1, 0, none⟩)]] 95)) fun e w' => e = .returned (.int .i64 11) ∧ ((w.alloc (.cells #[.bool false] 4)).alloc (.cells #[.iface 118 (.pointer (some aS))] 57)).alloc (.cells #[.func (.func 57) #[] #[.pointer (some ⟨w.heap.size, 0, none⟩), .pointer (some ⟨w.heap.size + 1, 0, none⟩)]] 95) = w' :=
  refused1_noS _ _ _ aA aS aR _ (hV.below (chk1p false aS w).2.2.2) (chk1p false aS w).1 (chk1p false aS w).2.1 (chk1p false aS w).2.2.1
theorem p1_noR (w : World) (aA aS aR : Addr) (hV : AV w aA aS aR) :
    Calls Tryd.prog 49 #[.slice (some ⟨w.heap.size + 1 + 1, 0, none⟩) 1 1] (((w.alloc (.cells #[.bool false] 4)).alloc (.cells #[.iface 118 (.pointer (some aR))] 57)).alloc (.cells #[.func (.func 57) #[] #[.pointer (some ⟨w.heap.size, 0, none⟩), .pointer (some ⟨w.heap.size + 1, 0, none⟩)]] 95)) fun e w' => e = .returned (.int .i64 12) ∧ ((w.alloc (.cells #[.bool false] 4)).alloc (.cells #[.iface 118 (.pointer (some aR))] 57)).alloc (.cells #[.func (.func 57) #[] #[.pointer (some ⟨w.heap.size, 0, none⟩), .pointer (some ⟨w.heap.size + 1, 0, none⟩)]] 95) = w' :=
  refused1_noR _ _ _ aA aS aR _ (hV.below (chk1p false aR w).2.2.2) (chk1p false aR w).1 (chk1p false aR w).2.1 (chk1p false aR w).2.2.1
end Go.Proofs.YtmikkbhillkpkaaDoor.Ad
