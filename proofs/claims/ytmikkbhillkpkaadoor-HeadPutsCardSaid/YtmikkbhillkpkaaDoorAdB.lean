/-
  addr.refused over one and two checks.
-/
import Derived.Test.YtmikkbhillkpkaaDoorAdA

namespace Go.Proofs.YtmikkbhillkpkaaDoor.Ad
open Go.RowKit Go.Lib

theorem refused1_noA (s p q : Nat) (aA aS aR : Addr) (w : World) (hV : AV w aA aS aR)
    (hs0 : w.cell? ⟨s, 0, none⟩ = some (.func (.func 57) #[] #[.pointer (some ⟨p, 0, none⟩), .pointer (some ⟨q, 0, none⟩)])) (hp : w.cell? ⟨p, 0, none⟩ = some (.bool false)) (hq : w.cell? ⟨q, 0, none⟩ = some (.iface 118 (.pointer (some aA)))) :
    Calls Tryd.prog 49 #[.slice (some ⟨s, 0, none⟩) 1 1] w fun e w' => e = .returned (.int .i64 10) ∧ w = w' := by
  obtain ⟨cA, bA, tA, hA⟩ := hV.cA
  obtain ⟨cS, bS, tS, hS⟩ := hV.cS
  obtain ⟨cR, bR, tR, hR⟩ := hV.cR
  have nAS := hV.nAS
  have nAR := hV.nAR
  have nSR := hV.nSR
  clear hV
  have HA := Lib.hid hA; have HS := Lib.hid hS; have HR := Lib.hid hR; have NAS := Lib.hid nAS; have NAR := Lib.hid nAR; have NSR := Lib.hid nSR
  clear hA hS hR nAS nAR nSR
  go_enter Tryd.func49, Tryd.ntmps49
  go_wp2
  refine wp_loop_rounds 1 ?_
  rw [rounds_succ]
  go_wp2_with (go_at_call 57; refine (unless1_no _ _ aA _ hp hq).mono ?_; rintro e w' ⟨rfl, rfl⟩)
  refine (is_same aA _).mono ?_
  rintro e w' ⟨rfl, rfl⟩
  go_wp2_with fail
  go_ret
  exact ⟨rfl, rfl⟩
theorem refused1_noS (s p q : Nat) (aA aS aR : Addr) (w : World) (hV : AV w aA aS aR)
    (hs0 : w.cell? ⟨s, 0, none⟩ = some (.func (.func 57) #[] #[.pointer (some ⟨p, 0, none⟩), .pointer (some ⟨q, 0, none⟩)])) (hp : w.cell? ⟨p, 0, none⟩ = some (.bool false)) (hq : w.cell? ⟨q, 0, none⟩ = some (.iface 118 (.pointer (some aS)))) :
    Calls Tryd.prog 49 #[.slice (some ⟨s, 0, none⟩) 1 1] w fun e w' => e = .returned (.int .i64 11) ∧ w = w' := by
  obtain ⟨cA, bA, tA, hA⟩ := hV.cA
  obtain ⟨cS, bS, tS, hS⟩ := hV.cS
  obtain ⟨cR, bR, tR, hR⟩ := hV.cR
  have nAS := hV.nAS
  have nAR := hV.nAR
  have nSR := hV.nSR
  clear hV
  have HA := Lib.hid hA; have HS := Lib.hid hS; have HR := Lib.hid hR; have NAS := Lib.hid nAS; have NAR := Lib.hid nAR; have NSR := Lib.hid nSR
  clear hA hS hR nAS nAR nSR
  go_enter Tryd.func49, Tryd.ntmps49
  go_wp2
  refine wp_loop_rounds 1 ?_
  rw [rounds_succ]
  go_wp2_with (go_at_call 57; refine (unless1_no _ _ aS _ hp hq).mono ?_; rintro e w' ⟨rfl, rfl⟩)
  refine (is_other aS aA bS bA tS tA _ NAS.out.symm HS.out HA.out).mono ?_
  rintro e w' ⟨rfl, rfl⟩
  go_wp2_with fail
  refine (is_same aS _).mono ?_
  rintro e w' ⟨rfl, rfl⟩
  go_wp2_with fail
  go_ret
  exact ⟨rfl, rfl⟩
theorem refused1_noR (s p q : Nat) (aA aS aR : Addr) (w : World) (hV : AV w aA aS aR)
    (hs0 : w.cell? ⟨s, 0, none⟩ = some (.func (.func 57) #[] #[.pointer (some ⟨p, 0, none⟩), .pointer (some ⟨q, 0, none⟩)])) (hp : w.cell? ⟨p, 0, none⟩ = some (.bool false)) (hq : w.cell? ⟨q, 0, none⟩ = some (.iface 118 (.pointer (some aR)))) :
    Calls Tryd.prog 49 #[.slice (some ⟨s, 0, none⟩) 1 1] w fun e w' => e = .returned (.int .i64 12) ∧ w = w' := by
  obtain ⟨cA, bA, tA, hA⟩ := hV.cA
  obtain ⟨cS, bS, tS, hS⟩ := hV.cS
  obtain ⟨cR, bR, tR, hR⟩ := hV.cR
  have nAS := hV.nAS
  have nAR := hV.nAR
  have nSR := hV.nSR
  clear hV
  have HA := Lib.hid hA; have HS := Lib.hid hS; have HR := Lib.hid hR; have NAS := Lib.hid nAS; have NAR := Lib.hid nAR; have NSR := Lib.hid nSR
  clear hA hS hR nAS nAR nSR
  go_enter Tryd.func49, Tryd.ntmps49
  go_wp2
  refine wp_loop_rounds 1 ?_
  rw [rounds_succ]
  go_wp2_with (go_at_call 57; refine (unless1_no _ _ aR _ hp hq).mono ?_; rintro e w' ⟨rfl, rfl⟩)
  refine (is_other aR aA bR bA tR tA _ NAR.out.symm HR.out HA.out).mono ?_
  rintro e w' ⟨rfl, rfl⟩
  go_wp2_with fail
  refine (is_other aR aS bR bS tR tS _ NSR.out.symm HR.out HS.out).mono ?_
  rintro e w' ⟨rfl, rfl⟩
  go_wp2_with fail
  refine (is_same aR _).mono ?_
  rintro e w' ⟨rfl, rfl⟩
  go_wp2_with fail
  go_ret
  exact ⟨rfl, rfl⟩
theorem refused2_yes (s p q p1 q1 : Nat) (w : World)
    (hs0 : w.cell? ⟨s, 0, none⟩ = some (.func (.func 57) #[] #[.pointer (some ⟨p, 0, none⟩), .pointer (some ⟨q, 0, none⟩)])) (hs1 : w.cell? ⟨s, 1, none⟩ = some (.func (.func 57) #[] #[.pointer (some ⟨p1, 0, none⟩), .pointer (some ⟨q1, 0, none⟩)])) (hp : w.cell? ⟨p, 0, none⟩ = some (.bool true)) (hp1 : w.cell? ⟨p1, 0, none⟩ = some (.bool true)) :
    Calls Tryd.prog 49 #[.slice (some ⟨s, 0, none⟩) 2 2] w fun e w' => e = .returned (.int .i64 0) ∧ w = w' := by
  go_enter Tryd.func49, Tryd.ntmps49
  go_wp2
  refine wp_loop_rounds 3 ?_
  rw [rounds_succ]
  go_wp2_with fail
  refine (unless1_yes _ _ _ hp).mono ?_
  rintro e w' ⟨rfl, rfl⟩
  go_wp2_with fail
  rw [rounds_succ]
  go_wp2_with fail
  refine (unless1_yes _ _ _ hp1).mono ?_
  rintro e w' ⟨rfl, rfl⟩
  go_wp2_with fail
  rw [rounds_succ]
  go_wp2
  go_ret
  exact ⟨rfl, rfl⟩
theorem refused2_no0 (s p q p1 q1 : Nat) (aA aS aR : Addr) (w : World) (hV : AV w aA aS aR)
    (hs0 : w.cell? ⟨s, 0, none⟩ = some (.func (.func 57) #[] #[.pointer (some ⟨p, 0, none⟩), .pointer (some ⟨q, 0, none⟩)])) (_hs1 : w.cell? ⟨s, 1, none⟩ = some (.func (.func 57) #[] #[.pointer (some ⟨p1, 0, none⟩), .pointer (some ⟨q1, 0, none⟩)])) (hp : w.cell? ⟨p, 0, none⟩ = some (.bool false)) (hq : w.cell? ⟨q, 0, none⟩ = some (.iface 118 (.pointer (some aA)))) :
    Calls Tryd.prog 49 #[.slice (some ⟨s, 0, none⟩) 2 2] w fun e w' => e = .returned (.int .i64 10) ∧ w = w' := by
  have cA := hV.cA.1
  clear hV
  go_enter Tryd.func49, Tryd.ntmps49
  go_wp2
  refine wp_loop_rounds 1 ?_
  rw [rounds_succ]
  go_wp2_with fail
  refine (unless1_no _ _ aA _ hp hq).mono ?_
  rintro e w' ⟨rfl, rfl⟩
  go_wp2_with fail
  refine (is_same aA _).mono ?_
  rintro e w' ⟨rfl, rfl⟩
  go_wp2_with fail
  go_ret
  exact ⟨rfl, rfl⟩
theorem refused2_no1 (s p q p1 q1 : Nat) (aA aS aR : Addr) (w : World) (hV : AV w aA aS aR)
    (hs0 : w.cell? ⟨s, 0, none⟩ = some (.func (.func 57) #[] #[.pointer (some ⟨p, 0, none⟩), .pointer (some ⟨q, 0, none⟩)])) (hs1 : w.cell? ⟨s, 1, none⟩ = some (.func (.func 57) #[] #[.pointer (some ⟨p1, 0, none⟩), .pointer (some ⟨q1, 0, none⟩)])) (hp : w.cell? ⟨p, 0, none⟩ = some (.bool true)) (hp1 : w.cell? ⟨p1, 0, none⟩ = some (.bool false)) (hq : w.cell? ⟨q1, 0, none⟩ = some (.iface 118 (.pointer (some aA)))) :
    Calls Tryd.prog 49 #[.slice (some ⟨s, 0, none⟩) 2 2] w fun e w' => e = .returned (.int .i64 10) ∧ w = w' := by
  have cA := hV.cA.1
  clear hV
  go_enter Tryd.func49, Tryd.ntmps49
  go_wp2
  refine wp_loop_rounds 2 ?_
  rw [rounds_succ]
  go_wp2_with fail
  refine (unless1_yes _ _ _ hp).mono ?_
  rintro e w' ⟨rfl, rfl⟩
  go_wp2_with fail
  rw [rounds_succ]
  go_wp2_with fail
  refine (unless1_no _ _ aA _ hp1 hq).mono ?_
  rintro e w' ⟨rfl, rfl⟩
  go_wp2_with fail
  refine (is_same aA _).mono ?_
  rintro e w' ⟨rfl, rfl⟩
  go_wp2_with fail
  go_ret
  exact ⟨rfl, rfl⟩
end Go.Proofs.YtmikkbhillkpkaaDoor.Ad
