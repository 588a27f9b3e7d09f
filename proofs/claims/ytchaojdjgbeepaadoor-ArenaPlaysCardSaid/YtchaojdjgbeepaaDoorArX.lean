/-
  selionlaw03.made: an arena behind some calls.
-/
import Derived.Test.YtchaojdjgbeepaaDoorArO
namespace Go.Proofs.YtchaojdjgbeepaaDoor
open Go.RowKit Go.Lib Go.Shelf
attribute [local go_sem] Oper.semAt_some

/-- The bytes behind some calls. -/
def runA (bs : List UInt8) (xs : List OpD) : List UInt8 := xs.foldl (fun b x => (doA b x).2) bs
theorem runA_len (xs : List OpD) (bs : List UInt8) : (runA bs xs).length = bs.length := by
  induction xs generalizing bs with
  | nil => rfl
  | cons x xs ih => exact (ih _).trans (doA_len bs x)
theorem runA_take (bs : List UInt8) (xs : List OpD) (k : Nat) (x : OpD) (h : xs[k]? = some x) : runA bs (xs.take (k + 1)) = (doA (runA bs (xs.take k)) x).2 := by
  obtain ⟨h1, h2⟩ := List.getElem?_eq_some_iff.1 h
  rw [List.take_succ_eq_append_getElem h1, h2, runA, List.foldl_append]
  rfl

set_option maxRecDepth 100000 in
theorem made_bad (V : VR) (n : Int) (l : Value) (w : World) (hV : RV w V) (hn : InI n) (h : n < 1 ∨ 32 < n) :
    Calls Tryd.prog 23 #[.int .i64 n, l] w fun e w' => e = .returned (.tuple #[.pointer none, .bool false]) ∧ Below w.heap.size w w' := by
  have HV := Lib.hid hV
  have hm : IntKind.i64.wrap (n - 1) < 0 ∨ 32 ≤ IntKind.i64.wrap (n - 1) := by
    obtain ⟨h1, h2⟩ := hn
    rw [IntKind.wrap_i64]
    omega
  have HM := Lib.hid hm
  clear hV hn hm h
  go_enter Tryd.func23, Tryd.ntmps23
  go_wp2_with fail
  ((with_reducible refine (new_bad V n _ w HV.out rfl HM.out).mono ?_))
  rintro e w2 ⟨rfl, hb⟩
  have HB := Lib.hid hb
  clear hb
  go_wp2
  go_ret2
  exact ⟨rfl, HB.out⟩

def MadePost (w : World) (bs : List UInt8) (e : Ending) (w' : World) : Prop := ∃ p g, e = .returned (.tuple #[.pointer (some ⟨p, 0, none⟩), .bool true]) ∧ Ar w' p g bs ∧ Below w.heap.size w w' ∧ w.heap.size ≤ g ∧ w.heap.size ≤ p
set_option maxRecDepth 100000 in
set_option maxHeartbeats 1000000 in
theorem made_ok (V : VR) (b : Nat) (q : Option Addr) (n cap : Nat) (xs : List OpD) (w : World) (hV : RV w V) (h0 : 1 ≤ b) (h1 : b ≤ 32) (hL : OL w q xs) (hn : xs.length = n) (hm : n ≤ maxLen) :
    Calls Tryd.prog 23 #[.int .i64 (b : Int), .slice q n cap] w (MadePost w (runA (zer (4096 * b)) (cutL xs))) := by
  have HV := Lib.hid hV
  have HL := Lib.hid hL
  have HN := Lib.hid hn
  have HC := Lib.hid (fun W hW => cut_any q n cap xs W hW hn hm)
  have hcl : (cutL xs).length ≤ 20 := by rw [cutL_len]; omega
  clear hV hL hn hm
  generalize cutL xs = ys at HC hcl ⊢
  go_enter Tryd.func23, Tryd.ntmps23
  go_wp2_with fail
  ((with_reducible refine (new_ok V b w HV.out h0 h1).mono ?_))
  rintro e w1 ⟨p, g, rfl, hA, hb, hg, hp⟩
  have HA := Lib.hid hA
  have HB := Lib.hid hb
  have hgl := hA.hg.lt
  have hpl := hA.hp.lt
  clear hA hb
  go_wp2_with fail
  ((with_reducible refine (HC.out w1 (HL.out.below HB.out)).mono ?_))
  rintro e w2 ⟨q2, c2, rfl, hL2, hq2, hb⟩
  have HA2 := Lib.hid (HA.out.below hb)
  have HB2 := Lib.hid (bstep HB.out hb)
  have HL2 := Lib.hid hL2
  have HQ2 := Lib.hid hq2
  clear hb hL2 hq2 HA HB HL HN HC
  have hys : ∃ m, ys.length = m := ⟨_, rfl⟩
  obtain ⟨m, hm⟩ := hys
  rw [hm] at hcl ⊢
  have HM := Lib.hid hm
  clear hm
  go_wp2
  go_loopw [8] (fun i wr => ∃ k : Nat, k ≤ m ∧ i = .int .i64 (k : Int) ∧ Ar wr p g (runA (zer (4096 * b)) (ys.take k)) ∧ OL wr q2 ys ∧ Below w.heap.size w wr) (fun i _ => 20 - (intOf i).toNat)
  case atStart => exact ⟨0, by omega, rfl, HA2.out, HL2.out, HB2.out⟩
  case round =>
    obtain ⟨k, hk, rfl, hA, hL, hb⟩ := hrel
    clear HA2 HB2 HL2
    by_cases hlt : k < m
    · have b0 : decide ((k : Int) < (m : Int)) = true := by simp; omega
      have b0' : decide (k < m) = true := by simpa using hlt
      have hx : ys[k]? = some (ys[k]'(by rw [HM.out]; exact hlt)) := List.getElem?_eq_getElem _
      generalize ys[k]'(by rw [HM.out]; exact hlt) = x at hx
      obtain ⟨bb, o, rfl, hok, _, c0, c1, c2, c3, c4⟩ := hL k x hx
      have HS := Lib.hid (runA_take (zer (4096 * b)) ys k x hx)
      have HD := Lib.hid (do_any V p g _ x wr (HV.out.below hb) hA hok)
      have HL := Lib.hid hL
      have HB := Lib.hid hb
      have ik : (0 : Int) ≤ (k : Int) := by omega
      have hsz := hb.size
      clear hx hok hA hL hb
      go_wp2_with fail
      ((with_reducible refine HD.out.mono ?_))
      rintro e w3 ⟨rfl, hA, hU⟩
      rw [← HS.out] at hA
      have HA3 := Lib.hid hA
      have HL3 := Lib.hid (HL.out.upd hU (fun a ea => by have := HQ2.out a ea; omega))
      have HB3 := Lib.hid (Upd.below HB.out hU hsz hg)
      clear hA hU HD
      go_wp2
      go_roundw
      case rel => exact ⟨k + 1, by omega, by go_num, HA3.out, HL3.out, HB3.out⟩
      case measure => simp [intOf]; omega
    · obtain rfl : k = m := by omega
      rw [List.take_of_length_le (by rw [HM.out]; omega)] at hA
      have HA3 := Lib.hid hA
      have HB3 := Lib.hid hb
      clear hA hb hL
      go_wp2
      go_ret2
      exact ⟨p, g, rfl, HA3.out, HB3.out, hg, hp⟩
end Go.Proofs.YtchaojdjgbeepaaDoor
