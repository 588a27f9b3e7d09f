/-
  arena: Size, Byte, Put, Read, Write, Zero.
-/
import Derived.Test.YtmikkbhillkpkaaDoorArD
namespace Go.Proofs.YtmikkbhillkpkaaDoor
open Go.RowKit Go.Lib Go.Shelf
attribute [local go_sem] Oper.semAt_some

theorem rdy_ok (p g : Nat) (bs : List UInt8) (f k s : Int) (w : World) (hA : Ar w p g bs) (hs : s = 1 ∨ s = 4) (h : okB bs.length f k s) :
    Calls Tryd.prog 39 #[.pointer (some ⟨p, 0, none⟩), .slice (some ⟨w.heap.size, 0, none⟩) 1 1] (w.alloc (.cells #[.int .i64 f, .int .i64 k, .int .i64 s] 82)) fun e w' => e = .returned .nilIface ∧ Below w.heap.size w w' := by
  have hb : Below w.heap.size w (w.alloc (.cells (bnd f k s) 82)) := (Below.refl _ w).alloc (Nat.le_refl _) _
  exact (ready_ok p g w.heap.size bs f k s _ (hA.below hb) (Blk.new w _ _) hs h).mono fun e w' ⟨he, hb'⟩ => ⟨he, bstep hb hb'⟩
theorem rdy_bad (V : VR) (p g : Nat) (bs : List UInt8) (f k s : Int) (w : World) (hV : RV w V) (hA : Ar w p g bs) (hs : s = 1 ∨ s = 4) (hf : InI f) (h : ¬ okB bs.length f k s) :
    Calls Tryd.prog 39 #[.pointer (some ⟨p, 0, none⟩), .slice (some ⟨w.heap.size, 0, none⟩) 1 1] (w.alloc (.cells #[.int .i64 f, .int .i64 k, .int .i64 s] 82)) fun e w' => e = .returned (.iface 118 (.pointer (some V.rA))) ∧ Below w.heap.size w w' := by
  have hb : Below w.heap.size w (w.alloc (.cells (bnd f k s) 82)) := (Below.refl _ w).alloc (Nat.le_refl _) _
  exact (ready_bad V p g w.heap.size bs f k s _ (hV.below hb) (hA.below hb) (Blk.new w _ _) hs hf h).mono fun e w' ⟨he, hb'⟩ => ⟨he, bstep hb hb'⟩
theorem rdy_nil (V : VR) (f k s : Int) (w : World) (hV : RV w V) :
    Calls Tryd.prog 39 #[.pointer none, .slice (some ⟨w.heap.size, 0, none⟩) 1 1] (w.alloc (.cells #[.int .i64 f, .int .i64 k, .int .i64 s] 82)) fun e w' => e = .returned (.iface 118 (.pointer (some V.rN))) ∧ Below w.heap.size w w' := by
  have hb : Below w.heap.size w (w.alloc (.cells (bnd f k s) 82)) := (Below.refl _ w).alloc (Nat.le_refl _) _
  exact (ready_nil V _ _ (hV.below hb)).mono fun e w' ⟨he, hw⟩ => ⟨he, by subst hw; exact hb⟩

theorem size_ok (p g : Nat) (bs : List UInt8) (w : World) (hA : Ar w p g bs) :
    Calls Tryd.prog 28 #[.pointer (some ⟨p, 0, none⟩)] w fun e w' => e = .returned (.int .i64 (bs.length : Int)) ∧ w = w' := by
  have cp : w.cell? ⟨p, 0, none⟩ = some (.slice (some ⟨g, 0, none⟩) bs.length bs.length) := hA.hp.cell rfl
  clear hA
  go_enter Tryd.func28, Tryd.ntmps28
  go_wp2
  go_ret
  exact ⟨rfl, rfl⟩
theorem size_nil (w : World) : Calls Tryd.prog 28 #[.pointer none] w fun e w' => e = .returned (.int .i64 0) ∧ w = w' := by
  go_enter Tryd.func28, Tryd.ntmps28
  go_wp2
  go_ret
  exact ⟨rfl, rfl⟩

theorem read_bad (V : VR) (p g : Nat) (bs : List UInt8) (f k : Int) (w : World) (hV : RV w V) (hA : Ar w p g bs) (hf : InI f) (h : ¬ okB bs.length f k 1) :
    Calls Tryd.prog 27 #[.pointer (some ⟨p, 0, none⟩), .int .i64 f, .int .i64 k] w fun e w' => e = .returned (.tuple #[.string ⟨#[]⟩, .int .i64 10]) ∧ Below w.heap.size w w' := by
  have HR := Lib.hid (rdy_bad V p g bs f k 1 w hV hA (.inl rfl) hf h)
  have HV := Lib.hid hV
  clear hV hA hf h
  go_enter Tryd.func27, Tryd.ntmps27
  go_wp2_with fail
  ((with_reducible refine HR.out.mono ?_))
  rintro e w1 ⟨rfl, hb⟩
  have HB := Lib.hid hb
  clear hb
  go_wp2_with fail
  ((with_reducible refine (number_addr V _ (HV.out.below HB.out)).mono ?_))
  rintro e w' ⟨rfl, rfl⟩
  go_wp2
  go_ret2
  exact ⟨rfl, HB.out⟩
theorem read_ok (p g : Nat) (bs : List UInt8) (i k : Nat) (w : World) (hA : Ar w p g bs) (hi : i + k ≤ bs.length) :
    Calls Tryd.prog 27 #[.pointer (some ⟨p, 0, none⟩), .int .i64 (i : Int), .int .i64 (k : Int)] w fun e w' => e = .returned (.tuple #[.string ⟨((bs.drop i).take k).toArray⟩, .int .i64 0]) ∧ Below w.heap.size w w' := by
  have HR := Lib.hid (rdy_ok p g bs i k 1 w hA (.inl rfl) ⟨by omega, by omega, by omega, by omega⟩)
  have HA := Lib.hid hA
  have hln := hA.len
  clear hA
  generalize hX : (⟨((bs.drop i).take k).toArray⟩ : ByteArray) = T
  have HX := Lib.hid hX
  clear hX
  go_enter Tryd.func27, Tryd.ntmps27
  go_wp2_with fail
  ((with_reducible refine HR.out.mono ?_))
  rintro e w1 ⟨rfl, hb⟩
  have hA := HA.out.below hb
  have cp : w1.cell? ⟨p, 0, none⟩ = some (.slice (some ⟨g, 0, none⟩) bs.length bs.length) := hA.hp.cell rfl
  have hc := run_cut g i k bs.length hi w1
  have ht := run_text hA i k hi
  rw [HX.out] at ht
  have HB := Lib.hid hb
  clear hb hA HR HA
  go_wp2
  go_ret2
  exact ⟨rfl, HB.out⟩

theorem write_bad (V : VR) (p g : Nat) (bs : List UInt8) (f : Int) (s : ByteArray) (w : World) (hV : RV w V) (hA : Ar w p g bs) (hf : InI f) (h : ¬ okB bs.length f s.size 1) :
    Calls Tryd.prog 23 #[.pointer (some ⟨p, 0, none⟩), .int .i64 f, .string s] w fun e w' => e = .returned (.int .i64 10) ∧ Below w.heap.size w w' := by
  have HR := Lib.hid (rdy_bad V p g bs f s.size 1 w hV hA (.inl rfl) hf h)
  have HV := Lib.hid hV
  clear hV hA hf h
  go_enter Tryd.func23, Tryd.ntmps23
  go_wp2_with fail
  ((with_reducible refine HR.out.mono ?_))
  rintro e w1 ⟨rfl, hb⟩
  have HB := Lib.hid hb
  clear hb
  go_wp2_with fail
  ((with_reducible refine (number_addr V _ (HV.out.below HB.out)).mono ?_))
  rintro e w' ⟨rfl, rfl⟩
  go_wp2
  go_ret
  exact ⟨rfl, HB.out⟩
theorem write_ok (p g : Nat) (bs : List UInt8) (i : Nat) (s : ByteArray) (w : World) (hA : Ar w p g bs) (hi : i + s.size ≤ bs.length) :
    Calls Tryd.prog 23 #[.pointer (some ⟨p, 0, none⟩), .int .i64 (i : Int), .string s] w fun e w' => e = .returned (.int .i64 0) ∧ Ar w' p g (wrL bs i s.data.toList) ∧ Upd g w w' := by
  have HR := Lib.hid (rdy_ok p g bs i s.size 1 w hA (.inl rfl) ⟨by omega, by omega, by omega, by omega⟩)
  have HA := Lib.hid hA
  have hln := hA.len
  clear hA
  go_enter Tryd.func23, Tryd.ntmps23
  go_wp2_with fail
  ((with_reducible refine HR.out.mono ?_))
  rintro e w1 ⟨rfl, hb⟩
  have hA := HA.out.below hb
  have cp : w1.cell? ⟨p, 0, none⟩ = some (.slice (some ⟨g, 0, none⟩) bs.length bs.length) := hA.hp.cell rfl
  have hc := run_cutl g i bs.length (by omega) w1
  have ht := run_cpy hA i s hi
  have HW : Hid (Ar (w1.setRow g (byteCells (wrL bs i s.data.toList)).toArray) p g (wrL bs i s.data.toList)) := Lib.hid (hA.put _ (wrL_len _ _ _ hi))
  have HU : Hid (Upd g w (w1.setRow g (byteCells (wrL bs i s.data.toList)).toArray)) := Lib.hid ((Upd.of_below hb).trans (Upd.setRow g w1 _))
  generalize w1.setRow g (byteCells (wrL bs i s.data.toList)).toArray = w2 at ht HW HU
  clear hb hA HR HA
  go_wp2
  go_ret
  exact ⟨rfl, HW.out, HU.out⟩
end Go.Proofs.YtmikkbhillkpkaaDoor
