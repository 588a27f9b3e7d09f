/-
  arena: Size, Byte, Put, Read, Write, Zero.
-/
import Derived.Test.YtchaojdjgbeepaaDoorArD
namespace Go.Proofs.YtchaojdjgbeepaaDoor
open Go.RowKit Go.Lib Go.Shelf
attribute [local go_sem] Oper.semAt_some

theorem rdy_ok (p g : Nat) (bs : List UInt8) (f k s : Int) (w : World) (hA : Ar w p g bs) (hs : s = 1 ∨ s = 4) (h : okB bs.length f k s) :
    Calls Tryd.prog 29 #[.pointer (some ⟨p, 0, none⟩), .slice (some ⟨w.heap.size, 0, none⟩) 1 1] (w.alloc (.cells #[.int .i64 f, .int .i64 k, .int .i64 s] 71)) fun e w' => e = .returned .nilIface ∧ Below w.heap.size w w' := by
  have hb : Below w.heap.size w (w.alloc (.cells (bnd f k s) 71)) := (Below.refl _ w).alloc (Nat.le_refl _) _
  exact (ready_ok p g w.heap.size bs f k s _ (hA.below hb) (Blk.new w _ _) hs h).mono fun e w' ⟨he, hb'⟩ => ⟨he, bstep hb hb'⟩
theorem rdy_bad (V : VR) (p g : Nat) (bs : List UInt8) (f k s : Int) (w : World) (hV : RV w V) (hA : Ar w p g bs) (hs : s = 1 ∨ s = 4) (hf : InI f) (h : ¬ okB bs.length f k s) :
    Calls Tryd.prog 29 #[.pointer (some ⟨p, 0, none⟩), .slice (some ⟨w.heap.size, 0, none⟩) 1 1] (w.alloc (.cells #[.int .i64 f, .int .i64 k, .int .i64 s] 71)) fun e w' => e = .returned (.iface 104 (.pointer (some V.rA))) ∧ Below w.heap.size w w' := by
  have hb : Below w.heap.size w (w.alloc (.cells (bnd f k s) 71)) := (Below.refl _ w).alloc (Nat.le_refl _) _
  exact (ready_bad V p g w.heap.size bs f k s _ (hV.below hb) (hA.below hb) (Blk.new w _ _) hs hf h).mono fun e w' ⟨he, hb'⟩ => ⟨he, bstep hb hb'⟩
theorem rdy_nil (V : VR) (f k s : Int) (w : World) (hV : RV w V) :
    Calls Tryd.prog 29 #[.pointer none, .slice (some ⟨w.heap.size, 0, none⟩) 1 1] (w.alloc (.cells #[.int .i64 f, .int .i64 k, .int .i64 s] 71)) fun e w' => e = .returned (.iface 104 (.pointer (some V.rN))) ∧ Below w.heap.size w w' := by
  have hb : Below w.heap.size w (w.alloc (.cells (bnd f k s) 71)) := (Below.refl _ w).alloc (Nat.le_refl _) _
  exact (ready_nil V _ _ (hV.below hb)).mono fun e w' ⟨he, hw⟩ => ⟨he, by subst hw; exact hb⟩

theorem size_ok (p g : Nat) (bs : List UInt8) (w : World) (hA : Ar w p g bs) :
    Calls Tryd.prog 14 #[.pointer (some ⟨p, 0, none⟩)] w fun e w' => e = .returned (.int .i64 (bs.length : Int)) ∧ w = w' := by
  have cp : w.cell? ⟨p, 0, none⟩ = some (.slice (some ⟨g, 0, none⟩) bs.length bs.length) := hA.hp.cell rfl
  clear hA
  go_enter Tryd.func14, Tryd.ntmps14
  go_wp2
  go_ret
  exact ⟨rfl, rfl⟩
theorem size_nil (w : World) : Calls Tryd.prog 14 #[.pointer none] w fun e w' => e = .returned (.int .i64 0) ∧ w = w' := by
  go_enter Tryd.func14, Tryd.ntmps14
  go_wp2
  go_ret
  exact ⟨rfl, rfl⟩

theorem byte_bad (V : VR) (p g : Nat) (bs : List UInt8) (f : Int) (w : World) (hV : RV w V) (hA : Ar w p g bs) (hf : InI f) (h : ¬ okB bs.length f 1 1) :
    Calls Tryd.prog 13 #[.pointer (some ⟨p, 0, none⟩), .int .i64 f] w fun e w' => e = .returned (.tuple #[.int .i64 0, .int .i64 10]) ∧ Below w.heap.size w w' := by
  have HR := Lib.hid (rdy_bad V p g bs f 1 1 w hV hA (.inl rfl) hf h)
  have HV := Lib.hid hV
  clear hV hA hf h
  go_enter Tryd.func13, Tryd.ntmps13
  go_wp2_with fail
  ((with_reducible refine HR.out.mono ?_))
  rintro e w1 ⟨rfl, hb⟩
  have HB := Lib.hid hb
  clear hb
  go_wp2_with fail
  ((with_reducible refine (number_addr V _ (HV.out.below HB.out)).mono ?_))
  rintro e w' ⟨rfl, rfl⟩
  go_wp2
  go_ret2
  exact ⟨rfl, HB.out⟩
theorem byte_ok (p g : Nat) (bs : List UInt8) (i : Nat) (w : World) (hA : Ar w p g bs) (hi : i < bs.length) :
    Calls Tryd.prog 13 #[.pointer (some ⟨p, 0, none⟩), .int .i64 (i : Int)] w fun e w' => e = .returned (.tuple #[.int .i64 (bs[i].toNat : Int), .int .i64 0]) ∧ Below w.heap.size w w' := by
  have HR := Lib.hid (rdy_ok p g bs i 1 1 w hA (.inl rfl) ⟨by omega, by omega, by omega, by omega⟩)
  have HA := Lib.hid hA
  clear hA
  generalize hX : bs[i].toNat = x
  have HX := Lib.hid hX
  clear hX
  go_enter Tryd.func13, Tryd.ntmps13
  go_wp2_with fail
  ((with_reducible refine HR.out.mono ?_))
  rintro e w1 ⟨rfl, hb⟩
  have hA := HA.out.below hb
  have cp : w1.cell? ⟨p, 0, none⟩ = some (.slice (some ⟨g, 0, none⟩) bs.length bs.length) := hA.hp.cell rfl
  have cb := hA.cell i hi
  have hx : bs[i].toNat < 256 := bs[i].toNat_lt
  rw [HX.out] at cb hx
  have HB := Lib.hid hb
  clear hb hA
  go_wp2
  go_ret2
  exact ⟨rfl, HB.out⟩

theorem read_bad (V : VR) (p g : Nat) (bs : List UInt8) (f k : Int) (w : World) (hV : RV w V) (hA : Ar w p g bs) (hf : InI f) (h : ¬ okB bs.length f k 1) :
    Calls Tryd.prog 21 #[.pointer (some ⟨p, 0, none⟩), .int .i64 f, .int .i64 k] w fun e w' => e = .returned (.tuple #[.string ⟨#[]⟩, .int .i64 10]) ∧ Below w.heap.size w w' := by
  have HR := Lib.hid (rdy_bad V p g bs f k 1 w hV hA (.inl rfl) hf h)
  have HV := Lib.hid hV
  clear hV hA hf h
  go_enter Tryd.func21, Tryd.ntmps21
  go_wp2_with fail
  ((with_reducible refine HR.out.mono ?_))
  rintro e w1 ⟨rfl, hb⟩
  have HB := Lib.hid hb
  clear hb
  go_wp2_with fail
  ((with_reducible refine (number_addr V _ (HV.out.below HB.out)).mono ?_))
  rintro e w' ⟨rfl, rfl⟩
  go_wp2
  go_ret2
  exact ⟨rfl, HB.out⟩
theorem read_ok (p g : Nat) (bs : List UInt8) (i k : Nat) (w : World) (hA : Ar w p g bs) (hi : i + k ≤ bs.length) :
    Calls Tryd.prog 21 #[.pointer (some ⟨p, 0, none⟩), .int .i64 (i : Int), .int .i64 (k : Int)] w fun e w' => e = .returned (.tuple #[.string ⟨((bs.drop i).take k).toArray⟩, .int .i64 0]) ∧ Below w.heap.size w w' := by
  have HR := Lib.hid (rdy_ok p g bs i k 1 w hA (.inl rfl) ⟨by omega, by omega, by omega, by omega⟩)
  have HA := Lib.hid hA
  have hln := hA.len
  clear hA
  generalize hX : (⟨((bs.drop i).take k).toArray⟩ : ByteArray) = T
  have HX := Lib.hid hX
  clear hX
  go_enter Tryd.func21, Tryd.ntmps21
  go_wp2_with fail
  ((with_reducible refine HR.out.mono ?_))
  rintro e w1 ⟨rfl, hb⟩
  have hA := HA.out.below hb
  have cp : w1.cell? ⟨p, 0, none⟩ = some (.slice (some ⟨g, 0, none⟩) bs.length bs.length) := hA.hp.cell rfl
  have hc := run_cut g i k bs.length hi w1
  have ht := run_text hA i k hi
  rw [HX.out] at ht
  have HB := Lib.hid hb
  clear hb hA HR HA
  go_wp2
  go_ret2
  exact ⟨rfl, HB.out⟩

theorem write_bad (V : VR) (p g : Nat) (bs : List UInt8) (f : Int) (s : ByteArray) (w : World) (hV : RV w V) (hA : Ar w p g bs) (hf : InI f) (h : ¬ okB bs.length f s.size 1) :
    Calls Tryd.prog 24 #[.pointer (some ⟨p, 0, none⟩), .int .i64 f, .string s] w fun e w' => e = .returned (.int .i64 10) ∧ Below w.heap.size w w' := by
  have HR := Lib.hid (rdy_bad V p g bs f s.size 1 w hV hA (.inl rfl) hf h)
  have HV := Lib.hid hV
  clear hV hA hf h
  go_enter Tryd.func24, Tryd.ntmps24
  go_wp2_with fail
  ((with_reducible refine HR.out.mono ?_))
  rintro e w1 ⟨rfl, hb⟩
  have HB := Lib.hid hb
  clear hb
  go_wp2_with fail
  ((with_reducible refine (number_addr V _ (HV.out.below HB.out)).mono ?_))
  rintro e w' ⟨rfl, rfl⟩
  go_wp2
  go_ret
  exact ⟨rfl, HB.out⟩
theorem write_ok (p g : Nat) (bs : List UInt8) (i : Nat) (s : ByteArray) (w : World) (hA : Ar w p g bs) (hi : i + s.size ≤ bs.length) :
    Calls Tryd.prog 24 #[.pointer (some ⟨p, 0, none⟩), .int .i64 (i : Int), .string s] w fun e w' => e = .returned (.int .i64 0) ∧ Ar w' p g (wrL bs i s.data.toList) ∧ Upd g w w' := by
  have HR := Lib.hid (rdy_ok p g bs i s.size 1 w hA (.inl rfl) ⟨by omega, by omega, by omega, by omega⟩)
  have HA := Lib.hid hA
  have hln := hA.len
  clear hA
  go_enter Tryd.func24, Tryd.ntmps24
  go_wp2_with fail
  ((with_reducible refine HR.out.mono ?_))
  rintro e w1 ⟨rfl, hb⟩
  have hA := HA.out.below hb
  have cp : w1.cell? ⟨p, 0, none⟩ = some (.slice (some ⟨g, 0, none⟩) bs.length bs.length) := hA.hp.cell rfl
  have hc := run_cutl g i bs.length (by omega) w1
  have ht := run_cpy hA i s hi
  have HW : Hid (Ar (w1.setRow g (byteCells (wrL bs i s.data.toList)).toArray) p g (wrL bs i s.data.toList)) := Lib.hid (hA.put _ (wrL_len _ _ _ hi))
  have HU : Hid (Upd g w (w1.setRow g (byteCells (wrL bs i s.data.toList)).toArray)) := Lib.hid ((Upd.of_below hb).trans (Upd.setRow g w1 _))
  generalize w1.setRow g (byteCells (wrL bs i s.data.toList)).toArray = w2 at ht HW HU
  clear hb hA HR HA
  go_wp2
  go_ret
  exact ⟨rfl, HW.out, HU.out⟩
theorem zero_bad (V : VR) (p g : Nat) (bs : List UInt8) (f k : Int) (w : World) (hV : RV w V) (hA : Ar w p g bs) (hf : InI f) (h : ¬ okB bs.length f k 1) :
    Calls Tryd.prog 18 #[.pointer (some ⟨p, 0, none⟩), .int .i64 f, .int .i64 k] w fun e w' => e = .returned (.int .i64 10) ∧ Below w.heap.size w w' := by
  have HR := Lib.hid (rdy_bad V p g bs f k 1 w hV hA (.inl rfl) hf h)
  have HV := Lib.hid hV
  clear hV hA hf h
  go_enter Tryd.func18, Tryd.ntmps18
  go_wp2_with fail
  ((with_reducible refine HR.out.mono ?_))
  rintro e w1 ⟨rfl, hb⟩
  have HB := Lib.hid hb
  clear hb
  go_wp2_with fail
  ((with_reducible refine (number_addr V _ (HV.out.below HB.out)).mono ?_))
  rintro e w' ⟨rfl, rfl⟩
  go_wp2
  go_ret
  exact ⟨rfl, HB.out⟩
theorem zero_nil (V : VR) (f k : Int) (w : World) (hV : RV w V) :
    Calls Tryd.prog 18 #[.pointer none, .int .i64 f, .int .i64 k] w fun e w' => e = .returned (.int .i64 1) ∧ Below w.heap.size w w' := by
  have HR := Lib.hid (rdy_nil V f k 1 w hV)
  have HV := Lib.hid hV
  clear hV
  go_enter Tryd.func18, Tryd.ntmps18
  go_wp2_with fail
  ((with_reducible refine HR.out.mono ?_))
  rintro e w1 ⟨rfl, hb⟩
  have HB := Lib.hid hb
  clear hb
  go_wp2_with fail
  ((with_reducible refine (number_nil V _ (HV.out.below HB.out)).mono ?_))
  rintro e w' ⟨rfl, rfl⟩
  go_wp2
  go_ret
  exact ⟨rfl, HB.out⟩
theorem zero_ok (p g : Nat) (bs : List UInt8) (i k : Nat) (w : World) (hA : Ar w p g bs) (hi : i + k ≤ bs.length) :
    Calls Tryd.prog 18 #[.pointer (some ⟨p, 0, none⟩), .int .i64 (i : Int), .int .i64 (k : Int)] w fun e w' => e = .returned (.int .i64 0) ∧ Ar w' p g (wrL bs i (List.replicate k 0)) ∧ Upd g w w' := by
  have HR := Lib.hid (rdy_ok p g bs i k 1 w hA (.inl rfl) ⟨by omega, by omega, by omega, by omega⟩)
  have HA := Lib.hid hA
  have hln := hA.len
  clear hA
  go_enter Tryd.func18, Tryd.ntmps18
  go_wp2_with fail
  ((with_reducible refine HR.out.mono ?_))
  rintro e w1 ⟨rfl, hb⟩
  have hA := HA.out.below hb
  have cp : w1.cell? ⟨p, 0, none⟩ = some (.slice (some ⟨g, 0, none⟩) bs.length bs.length) := hA.hp.cell rfl
  have hc := run_cut g i k bs.length (by omega) w1
  have ht := run_clr hA i k hi
  have HW : Hid (Ar (w1.setRow g (byteCells (wrL bs i (List.replicate k 0))).toArray) p g (wrL bs i (List.replicate k 0))) := Lib.hid (hA.put _ (wrL_len _ _ _ (by simpa using hi)))
  have HU : Hid (Upd g w (w1.setRow g (byteCells (wrL bs i (List.replicate k 0))).toArray)) := Lib.hid ((Upd.of_below hb).trans (Upd.setRow g w1 _))
  generalize w1.setRow g (byteCells (wrL bs i (List.replicate k 0))).toArray = w2 at ht HW HU
  clear hb hA HR HA
  go_wp2
  go_ret
  exact ⟨rfl, HW.out, HU.out⟩
theorem put_bad (V : VR) (p g : Nat) (bs : List UInt8) (f v : Int) (w : World) (hV : RV w V) (hA : Ar w p g bs) (hf : InI f) (h : ¬ okB bs.length f 1 1) :
    Calls Tryd.prog 26 #[.pointer (some ⟨p, 0, none⟩), .int .i64 f, .int .i64 v] w fun e w' => e = .returned (.int .i64 10) ∧ Below w.heap.size w w' := by
  have HR := Lib.hid (rdy_bad V p g bs f 1 1 w hV hA (.inl rfl) hf h)
  have HV := Lib.hid hV
  clear hV hA hf h
  go_enter Tryd.func26, Tryd.ntmps26
  go_wp2_with fail
  ((with_reducible refine HR.out.mono ?_))
  rintro e w1 ⟨rfl, hb⟩
  have HB := Lib.hid hb
  clear hb
  go_wp2_with fail
  ((with_reducible refine (number_addr V _ (HV.out.below HB.out)).mono ?_))
  rintro e w' ⟨rfl, rfl⟩
  go_wp2
  go_ret
  exact ⟨rfl, HB.out⟩
theorem put_no (V : VR) (p g : Nat) (bs : List UInt8) (i : Nat) (v : Int) (w : World) (hV : RV w V) (hA : Ar w p g bs) (hi : i < bs.length) (hv : v < 0 ∨ 255 < v) :
    Calls Tryd.prog 26 #[.pointer (some ⟨p, 0, none⟩), .int .i64 (i : Int), .int .i64 v] w fun e w' => e = .returned (.int .i64 2) ∧ Below w.heap.size w w' := by
  have HR := Lib.hid (rdy_ok p g bs i 1 1 w hA (.inl rfl) ⟨by omega, by omega, by omega, by omega⟩)
  have HV := Lib.hid hV
  clear hV hA
  rcases hv with hv | hv
  · go_enter Tryd.func26, Tryd.ntmps26
    go_wp2_with fail
    ((with_reducible refine HR.out.mono ?_))
    rintro e w1 ⟨rfl, hb⟩
    have HB := Lib.hid hb
    replace HV := Lib.hid (HV.out.below hb)
    have cG := HV.out.cG.1
    clear hb
    go_wp2_with fail
    ((with_reducible refine (number_arg V _ HV.out).mono ?_))
    rintro e w' ⟨rfl, rfl⟩
    go_wp2
    go_ret
    exact ⟨rfl, HB.out⟩
  · have h0 : ¬ v < 0 := by omega
    go_enter Tryd.func26, Tryd.ntmps26
    go_wp2_with fail
    ((with_reducible refine HR.out.mono ?_))
    rintro e w1 ⟨rfl, hb⟩
    have HB := Lib.hid hb
    replace HV := Lib.hid (HV.out.below hb)
    have cG := HV.out.cG.1
    clear hb
    go_wp2_with fail
    ((with_reducible refine (number_arg V _ HV.out).mono ?_))
    rintro e w' ⟨rfl, rfl⟩
    go_wp2
    go_ret
    exact ⟨rfl, HB.out⟩
theorem put_ok (p g : Nat) (bs : List UInt8) (i : Nat) (v : UInt8) (w : World) (hA : Ar w p g bs) (hi : i < bs.length) :
    Calls Tryd.prog 26 #[.pointer (some ⟨p, 0, none⟩), .int .i64 (i : Int), .int .i64 (v.toNat : Int)] w fun e w' => e = .returned (.int .i64 0) ∧ Ar w' p g (bs.set i v) ∧ Upd g w w' := by
  have HR := Lib.hid (rdy_ok p g bs i 1 1 w hA (.inl rfl) ⟨by omega, by omega, by omega, by omega⟩)
  have HA := Lib.hid hA
  have hln := hA.len
  have hx : v.toNat < 256 := v.toNat_lt
  clear hA
  generalize hX : v.toNat = x
  have HX := Lib.hid hX
  rw [hX] at hx
  clear hX
  go_enter Tryd.func26, Tryd.ntmps26
  go_wp2_with fail
  ((with_reducible refine HR.out.mono ?_))
  rintro e w1 ⟨rfl, hb⟩
  have hA := HA.out.below hb
  have cp : w1.cell? ⟨p, 0, none⟩ = some (.slice (some ⟨g, 0, none⟩) bs.length bs.length) := hA.hp.cell rfl
  have cb := hA.cell i hi
  have fb := hA.hg.frozen i
  have hW := hA.set i v
  have HU : Hid (Upd g w (w1.setCell ⟨g, i, none⟩ (.int .u8 (x : Int)))) := Lib.hid ((Upd.of_below hb).trans (Upd.setCell g i w1 _))
  rw [HX.out] at hW
  have HW := Lib.hid hW
  clear hb hA HR HA hW
  go_wp2
  go_ret
  exact ⟨rfl, HW.out, HU.out⟩
end Go.Proofs.YtchaojdjgbeepaaDoor
