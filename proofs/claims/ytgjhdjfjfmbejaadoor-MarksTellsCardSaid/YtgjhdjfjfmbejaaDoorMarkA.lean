/-
  marks.number, marks.table.copied, marks.extent.right, marks.marker.ways: what they return; what lay in memory stays.
-/
import Derived.Test.YtgjhdjfjfmbejaaDoorMarkPlain
import Derived.Test.YtgjhdjfjfmbejaaDoorHoleA
import Derived.Test.YtgjhdjfjfmbejaaDoorAdF
import Derived.Test.YtgjhdjfjfmbejaaDoorAdJ
import Derived.MapKept
import Derived.Laws.CopyOwn
namespace Go.Proofs.YtgjhdjfjfmbejaaDoor
open Go.RowKit Go.Lib Go.Shelf

/-- Where the errors of packages addr and marks lie. -/
structure VA where
  aA : Addr
  aS : Addr
  aR : Addr
  mS : Addr
  mT : Addr
/-- What the variables of packages addr and marks hold. -/
structure MV (w : World) (V : VA) : Prop where
  av : Ad.AV w V.aA V.aS V.aR
  cS : Ad.Sent w 2 V.mS
  cT : Ad.Sent w 0 V.mT
  ne : V.mS ≠ V.mT
theorem MV.below {w w' : World} {V : VA} (h : MV w V) (hb : Below w.heap.size w w') : MV w' V := ⟨h.av.below hb, h.cS.below hb, h.cT.below hb, h.ne⟩

theorem number_size (V : VA) (w : World) (hV : MV w V) :
    Calls Tryd.prog 31 #[.iface 113 (.pointer (some V.mS))] w fun e w' => e = .returned (.int .i64 11) ∧ w = w' := by
  have cS := hV.cS.1
  clear hV
  go_enter Tryd.func31, Tryd.ntmps31
  go_wp2_with fail
  refine (is_same V.mS _).mono ?_
  rintro e w' ⟨rfl, rfl⟩
  go_wp2_with fail
  go_ret
  exact ⟨rfl, rfl⟩
theorem number_table (V : VA) (w : World) (hV : MV w V) :
    Calls Tryd.prog 31 #[.iface 113 (.pointer (some V.mT))] w fun e w' => e = .returned (.int .i64 70) ∧ w = w' := by
  have cS := hV.cS.1
  obtain ⟨_, bS, tS, hS⟩ := hV.cS
  obtain ⟨_, bT, tT, hT⟩ := hV.cT
  have HO := Lib.hid (is_other V.mT V.mS bT bS tT tS w hV.ne.symm hT hS)
  clear hV hS hT
  go_enter Tryd.func31, Tryd.ntmps31
  go_wp2_with fail
  refine HO.out.mono ?_
  rintro e w' ⟨rfl, rfl⟩
  go_wp2_with fail
  go_ret
  exact ⟨rfl, rfl⟩

/-- Thirty-two numbers. -/
def tvals (z : Nat → Int) : List Value := (List.range 32).map fun i => Value.int .i64 (z i)
def tcells (z : Nat → Int) : Array Value := (tvals z).toArray
theorem tvals_len (z : Nat → Int) : (tvals z).length = 32 := by simp [tvals]
theorem tcells_size (z : Nat → Int) : (tcells z).size = 32 := by simp [tcells, tvals]
theorem tvals_get (z : Nat → Int) (i : Nat) (hi : i < 32) : (tvals z)[i]? = some (.int .i64 (z i)) := by simp [tvals, hi]
theorem tcells_get (z : Nat → Int) (i : Nat) (hi : i < 32) : (tcells z)[i]? = some (.int .i64 (z i)) := by
  unfold tcells; rw [List.getElem?_toArray]; exact tvals_get z i hi
theorem tcells_set (z : Nat → Int) (i : Nat) (v : Int) (hi : i < 32) : (tcells z).setIfInBounds i (.int .i64 v) = tcells (fun j => if j = i then v else z j) := by
  apply Array.ext_getElem?
  intro j
  rw [Array.getElem?_setIfInBounds]
  by_cases h : i = j
  · subst h
    rw [if_pos rfl, if_pos (by rw [tcells_size]; exact hi), tcells_get _ _ hi]
    simp
  · rw [if_neg h]
    by_cases hj : j < 32
    · rw [tcells_get _ _ hj, tcells_get _ _ hj]
      simp [Ne.symm h]
    · rw [Array.getElem?_eq_none (by rw [tcells_size]; omega), Array.getElem?_eq_none (by rw [tcells_size]; omega)]
theorem tcells_congr {z y : Nat → Int} (h : ∀ i, i < 32 → z i = y i) : tcells z = tcells y := by
  unfold tcells tvals
  congr 1
  exact List.map_congr_left (fun i hi => by rw [h i (by simpa using hi)])
theorem Blk.tab {w : World} {g : Nat} {z : Nat → Int} {t : TypeId} (h : Blk w g (tcells z) t) : Tab w g 0 z := fun i hi => by
  rw [Nat.zero_add]; exact h.cell (tcells_get z i hi)
theorem zeros32_t : zeros32 = tcells (fun _ => 0) := rfl
theorem mkTab (W : World) : (Instr.makeSlice 47 (.int .i64 32) (.int .i64 32)).run Tryd.prog W = .ok (.slice (some ⟨W.heap.size, 0, none⟩) 32 32) (W.alloc (.cells zeros32 3)) := by kernel_rfl
theorem mk32m (W : World) : (Instr.makeSlice 22 (.int .i64 32) (.int .i64 32)).run Tryd.prog W = .ok (.slice (some ⟨W.heap.size, 0, none⟩) 32 32) (W.alloc (.cells zeros32 3)) := by kernel_rfl
theorem make_any (w : World) : Calls Tryd.prog 17 #[] w fun e w' => e = .returned (.slice (some ⟨w.heap.size, 0, none⟩) 32 32) ∧ w' = w.alloc (.cells (tcells fun _ => 0) 3) := by
  have hmk := mk32m
  go_enter Tryd.func17, Tryd.ntmps17
  go_wp2
  go_ret
  exact ⟨rfl, rfl⟩

/-- A new table that holds the numbers z, and what lay stays. -/
def NewTab (w : World) (z : Nat → Int) (e : Ending) (w' : World) : Prop := e = .returned (.slice (some ⟨w.heap.size, 0, none⟩) 32 32) ∧ Blk w' w.heap.size (tcells z) 3 ∧ Below w.heap.size w w' ∧ w'.heap.size = w.heap.size + 1
set_option maxRecDepth 100000 in
theorem copied_any (b o cap : Nat) (z : Nat → Int) (w : World) (hT : Tab w b o z) :
    Calls Tryd.prog 32 #[.slice (some ⟨b, o, none⟩) 32 cap] w (NewTab w z) := by
  have hmk := mkTab
  have hs1 : (Tryd.prog.info? 3).map (·.size) = some 1 := by kernel_rfl
  have HT := Lib.hid (hT.below ((Below.refl _ w).alloc (Nat.le_refl _) (.cells zeros32 3)))
  have hz : zeros32.size = 32 := by simp [zeros32]
  have HZ := Lib.hid hz
  clear hT hz
  go_enter Tryd.func32, Tryd.ntmps32
  go_wp2_with (refine wpList_copy_own rfl _ _ 47 47 rfl 3 Tryd.underlying47 hs1 w.heap.size 0 32 32 ⟨b, o, none⟩ 32 cap rfl rfl zeros32 3 (Blk.new w zeros32 3) (tvals z) (by rw [tvals_len]; rfl) (fun j v hj => ?hsrc) (by rw [tvals_len, HZ.out]; omega) (by simp [tvals, Value.oneCell']) ?_)
  case hsrc =>
    have hj32 : j < 32 := by have := (List.getElem?_eq_some_iff.1 hj).1; rwa [tvals_len] at this
    rw [tvals_get z j hj32] at hj
    injection hj with hj
    subst hj
    have := HT.out j hj32
    rwa [Go.WideShapes.add_plain]
  go_ret
  have hrow : (tvals z ++ zeros32.toList.drop (tvals z).length).toArray = tcells z := by
    rw [tvals_len, List.drop_of_length_le (by rw [Array.length_toList, HZ.out]; omega), List.append_nil]; rfl
  rw [hrow]
  refine ⟨rfl, setRow_heap _ _ _ _ _ _ (heap_alloc_new w (.cells zeros32 3)), below_row ((Below.refl _ w).alloc (Nat.le_refl _) _) (Nat.le_refl _) _, by simp⟩

theorem xright_yes (a n : Int) (w : World) (h : xr a n) :
    Calls Tryd.prog 52 #[.agg #[.int .i64 a, .int .i64 n]] w fun e w' => e = .returned (.bool true) ∧ Below w.heap.size w w' := by
  obtain ⟨x1, x2, x3, x4, x5, x6⟩ := h
  have e3 : (a % 8 == 0) = true := by simpa using x3
  have HB := Lib.hid ((Below.refl w.heap.size w).alloc (Nat.le_refl _) (.cells #[.int .i64 a, .int .i64 n] 53))
  clear x3
  go_enter Tryd.func52, Tryd.ntmps52
  go_wp2
  go_ret
  exact ⟨rfl, HB.out⟩
theorem xright_no (a n : Int) (w : World) (h : ¬ xr a n) :
    Calls Tryd.prog 52 #[.agg #[.int .i64 a, .int .i64 n]] w fun e w' => e = .returned (.bool false) ∧ Below w.heap.size w w' := by
  have HB := Lib.hid ((Below.refl w.heap.size w).alloc (Nat.le_refl _) (.cells #[.int .i64 a, .int .i64 n] 53))
  by_cases x1 : 0 ≤ a
  · by_cases x2 : a < 4096
    · by_cases x3 : a % 8 = 0
      · have e3 : (a % 8 == 0) = true := by simpa using x3
        by_cases x4 : 1 ≤ n
        · by_cases x5 : n ≤ 2048
          · have x6 : ¬ n ≤ 4096 - a := fun x6 => h ⟨x1, x2, x3, x4, x5, x6⟩
            have x6' : decide (n ≤ 4096 - a) = false := by simp; omega
            clear x3 h x6
            go_enter Tryd.func52, Tryd.ntmps52
            go_wp2
            go_ret
            exact ⟨rfl, HB.out⟩
          · clear x3 h
            go_enter Tryd.func52, Tryd.ntmps52
            go_wp2
            go_ret
            exact ⟨rfl, HB.out⟩
        · clear x3 h
          go_enter Tryd.func52, Tryd.ntmps52
          go_wp2
          go_ret
          exact ⟨rfl, HB.out⟩
      · have e3 : (a % 8 == 0) = false := by simpa using x3
        clear x3 h
        go_enter Tryd.func52, Tryd.ntmps52
        go_wp2
        go_ret
        exact ⟨rfl, HB.out⟩
    · clear h
      go_enter Tryd.func52, Tryd.ntmps52
      go_wp2
      go_ret
      exact ⟨rfl, HB.out⟩
  · clear h
    go_enter Tryd.func52, Tryd.ntmps52
    go_wp2
    go_ret
    exact ⟨rfl, HB.out⟩

/-- The two ways, as a map's entries; the marker lies in block M. -/
def wayEs (M : Nat) : Array MapEntry := #[⟨.int .i64 1, .func (.func 61) #[] #[.pointer (some ⟨M, 0, none⟩)], 0⟩, ⟨.int .i64 2, .func (.func 62) #[] #[.pointer (some ⟨M, 0, none⟩)], 1⟩]
theorem run_insert {W : World} {r : Nat} {es : Array MapEntry} {clock : Nat} (hr : W.heap[r]? = some (.map es clock)) (k : Int) (v : Value) (hf : Instr.findNow (.int .i64) (.int .i64 k) es.toList 0 = some none) :
    (Instr.mapUpdate 82 (.map (some r)) (.int .i64 k) v).run Tryd.prog W = .ok () { W with heap := W.heap.setIfInBounds r (.map (es.push ⟨.int .i64 k, v, clock⟩) (clock + 1)) } := by
  have h1 := MapKept.run_checkKey (P := Tryd.prog) (w := W) (k := .int .i64 k) Tryd.underlying3 (by trivial) false 9999
  have h2 := MapKept.run_findKey (P := Tryd.prog) (w := W) Tryd.underlying3 hf
  have h3 := MapKept.run_setObj_map (P := Tryd.prog) (.map (es.push ⟨.int .i64 k, v, clock⟩) (clock + 1)) hr
  simp [Instr.mapUpdate, run_underlying Tryd.underlying82, MapKept.run_getObj_map hr, h1, h2, h3]
theorem run_look {W : World} {r M : Nat} (hr : W.heap[r]? = some (.map (wayEs M) 2)) (k : Int) (v : Value) (i : Nat) (hf : Instr.findNow (.int .i64) (.int .i64 k) (wayEs M).toList 0 = some (some (i, v))) :
    (Instr.lookup 82 (.map (some r)) (.int .i64 k) true).run Tryd.prog W = .ok (.tuple #[v, .bool true]) W := by
  have h1 := MapKept.run_checkKey (P := Tryd.prog) (w := W) (k := .int .i64 k) Tryd.underlying3 (by trivial) (wayEs M).isEmpty 9999
  have h2 := MapKept.run_findKey (P := Tryd.prog) (w := W) Tryd.underlying3 hf
  simp [Instr.lookup, run_underlying Tryd.underlying82, MapKept.run_getObj_map hr, h1, h2]
theorem alloc_set (w : World) (o o' : Obj) : { (w.alloc o) with heap := (w.alloc o).heap.setIfInBounds w.heap.size o' } = w.alloc o' := by
  have : (w.heap.push o).setIfInBounds w.heap.size o' = w.heap.push o' := by
    apply Array.ext_getElem?
    intro i
    rw [Array.getElem?_setIfInBounds, Array.getElem?_push, Array.getElem?_push]
    by_cases h : w.heap.size = i
    · subst h; simp
    · rw [if_neg h, if_neg (Ne.symm h), if_neg (Ne.symm h)]
  simp only [World.alloc, this]
end Go.Proofs.YtgjhdjfjfmbejaaDoor
