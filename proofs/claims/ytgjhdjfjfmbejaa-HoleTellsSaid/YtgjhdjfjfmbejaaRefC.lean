/-
  selionref08.All: the holes of a table; what lay in memory stays.
-/
import Derived.Test.YtgjhdjfjfmbejaaRefB
import Derived.Deep.LoopGhost
namespace Go.Proofs.Ytgjhdjfjfmbejaa
open Go.RowKit Go.Lib Go.Shelf
attribute [local go_sem] Oper.semAt_some

theorem own_blk {w W : World} {base : Nat} {e : TypeId} {size n : Nat} {v : Value} {xs : List Value} (h : w.ownsRow base e size v n xs) (hk : ∀ B cs t, base ≤ B → Blk w B cs t → Blk W B cs t) : W.ownsRow base e size v n xs := by
  refine ⟨h.1, ?_⟩
  rcases h.2 with h | ⟨g, cap, cur, hv, hg, hb, hr⟩
  · exact .inl h
  · exact .inr ⟨g, cap, cur, hv, hg, hk g cur e hg hb, hr⟩
theorem own_below {w W : World} {base : Nat} {e : TypeId} {size n : Nat} {v : Value} {xs : List Value} (h : w.ownsRow base e size v n xs) (hb : Below w.heap.size w W) : W.ownsRow base e size v n xs := own_blk h (fun _ _ _ _ b => b.below' hb)
theorem own_ge {w : World} {base : Nat} {e : TypeId} {size n : Nat} {v : Value} {xs : List Value} (h : w.ownsRow base e size v n xs) {k : Nat} (hk : v.ownBlock = some k) : base ≤ k := by
  rcases h.2 with ⟨rfl, _⟩ | ⟨g, cap, cur, rfl, hg, _⟩
  · cases hk
  · simp [Value.ownBlock] at hk; omega
theorem own_ne {w : World} {base : Nat} {e : TypeId} {size n : Nat} {v : Value} {xs : List Value} (h : w.ownsRow base e size v n xs) {B : Nat} (hB : B < base) : some B ≠ v.ownBlock := fun e' => by
  have := own_ge h e'.symm
  omega
theorem Try.infoHoleZ : (Try.prog.info? 30).map (fun i => (i.zero, i.size, i.bytes)) = some (some (.agg #[.int .i64 0, .int .i64 0]), 2, 16) := by kernel_rfl
theorem rnext_o (b o cap : Nat) (z : Nat → Int) (f : Nat) (r : Option (Nat × Nat)) (w : World) (hT : Tab w b o z) (hr : rightT z = true) (h : (holesZ (keptZ z) f).head? = r) :
    Calls Try.prog 13 #[.slice (some ⟨b, o, none⟩) 32 cap, .int .i64 (f : Int)] w fun e w' => e = .returned (.tuple #[.agg (hole2 r), .bool r.isSome]) ∧ Below w.heap.size w w' := by
  subst h
  exact rnext_pos b o cap z f w hT hr
theorem rnext_o0 (b o cap : Nat) (z : Nat → Int) (r : Option (Nat × Nat)) (w : World) (hT : Tab w b o z) (hr : rightT z = true) (h : (holesZ (keptZ z) 0).head? = r) :
    Calls Try.prog 13 #[.slice (some ⟨b, o, none⟩) 32 cap, .int .i64 0] w fun e w' => e = .returned (.tuple #[.agg (hole2 r), .bool r.isSome]) ∧ Below w.heap.size w w' := rnext_o b o cap z 0 r w hT hr h
theorem hvals_take (ps : List (Nat × Nat)) (k : Nat) (x : Nat × Nat) (h : ps[k]? = some x) : hvals (ps.take (k + 1)) = hvals (ps.take k) ++ [.int .i64 (x.1 : Int), .int .i64 (x.2 : Int)] := by
  obtain ⟨hk, rfl⟩ := List.getElem?_eq_some_iff.1 h
  rw [List.take_succ_eq_append_getElem hk, hvals_append]
  rfl
def RAllPost (w : World) (ps : List (Nat × Nat)) (e : Ending) (w' : World) : Prop := ∃ v, e = .returned (.tuple #[v, .int .i64 0]) ∧ HL w' v ps ∧ Below w.heap.size w w'

set_option maxRecDepth 100000 in
set_option maxHeartbeats 2000000 in
theorem rall_yes (b o cap : Nat) (z : Nat → Int) (w : World) (hT : Tab w b o z) (hr : rightT z = true) :
    Calls Try.prog 11 #[.slice (some ⟨b, o, none⟩) 32 cap] w (RAllPost w (holesZ (keptZ z) 0)) := by
  have HT := Lib.hid hT
  have HTw := Lib.hid hT
  have HR := Lib.hid hr
  clear hT hr
  obtain ⟨i0, hi, hz0, hz1, hz2⟩ := info_parts Try.infoHoleZ
  have hlz := holesZ_len (keptZ z) 32 0 (by omega)
  have HW := Lib.hid (walk_head (keptZ z))
  have hh0 : (holesZ (keptZ z) 0).head? = (holesZ (keptZ z) 0)[0]? := by rw [List.head?_eq_getElem?]
  have HN := Lib.hid (fun f r => rnext_o b o cap z f r)
  have HN0 := Lib.hid (fun w hT hr => rnext_o0 b o cap z _ w hT hr hh0)
  clear hh0
  generalize holesZ (keptZ z) 0 = ps at hlz HW HN0 ⊢
  go_enter Try.func11, Try.ntmps11
  go_wp2_with (first
    | (go_at_call 29; ((with_reducible refine (rright_yes b o cap z _ HT.out HR.out).mono ?_)); rintro e w' ⟨rfl, rfl⟩)
    | (go_at_call 13; ((with_reducible refine (HN0.out _ HT.out HR.out).mono ?_)); rintro e w1 ⟨rfl, hb⟩; have HB := Lib.hid hb; have HB1 := Lib.hid hb; replace HT := Lib.hid (HT.out.below hb); clear hb)
    | (refine wpList_store_new rfl 30 _ _ rfl _ (hole2 ps[0]?) 30 rfl rfl (by rw [hole2_size]; exact Try.infoHole2) (by rw [hole2_size]; rfl) (hole2_one _) ?_; intro W2 bF bK hB2 hs2; replace HT := Lib.hid (HT.out.below hB2); replace HB := Lib.hid (bstep HB.out hB2); have HS := Lib.hid hs2; clear bK hB2 hs2))
  clear HN0
  have hTlt : b < w1.heap.size := by have := HTw.out.lt; have := HB1.out.size; omega
  have h1w : w.heap.size ≤ w1.heap.size := by have := bF.lt; have := HS.out; exact HB1.out.size
  go_loopg [4, 6] ps.length (fun gk v t wr => ∃ k : Nat, gk + k = ps.length ∧ t = .bool ps[k]?.isSome ∧ wr.ownsRow (w1.heap.size + 1) 30 2 v k (hvals (ps.take k)) ∧ Blk wr w1.heap.size (hole2 ps[k]?) 30 ∧ Tab wr b o z ∧ Below w.heap.size w wr)
  case atStart => exact ⟨0, rfl, rfl, World.ownsRow_nil _ _ _ _, bF, HT.out, HB.out⟩
  case round =>
    obtain ⟨k, hgk, rfl, hown, gF, gT, gB⟩ := hrel
    have HG := Lib.hid hgk
    have HO := Lib.hid hown
    have HTr := Lib.hid gT
    have HBr := Lib.hid gB
    have hk : k ≤ ps.length := by omega
    clear hgk hown gT gB HT HB bF
    by_cases hlt : k < ps.length
    · have hx : ps[k]? = some ps[k] := List.getElem?_eq_getElem hlt
      generalize ps[k] = x at hx
      have HE := Lib.hid (endAt_succ ps k x hx)
      have HV := Lib.hid (hvals_take ps k x hx)
      have HH := Lib.hid (HW.out (k + 1) (by omega))
      rw [HE.out] at HH
      rw [hx] at gF ⊢
      have c0 : wr.cell? ⟨w1.heap.size, 0, none⟩ = some (.int .i64 (x.1 : Int)) := gF.cell rfl
      have c1 : wr.cell? ⟨w1.heap.size, 1, none⟩ = some (.int .i64 (x.2 : Int)) := gF.cell rfl
      clear hx HE
      rw [show (some x).isSome = true from rfl]
      have hlF := gF.lt
      go_wp2_with (at_builtin; refine wpList_append_own _ rfl _ _ 25 rfl (w1.heap.size + 1) 30 i0 (.agg #[.int .i64 0, .int .i64 0]) 2 16 Try.underlying25 hi hz0 hz1 hz2 rfl (by decide) _ k (hvals (ps.take k)) rfl (HO.out.alloc _) ⟨wr.heap.size, 0, none⟩ 1 1 [.int .i64 (x.1 : Int), .int .i64 (x.2 : Int)] rfl rfl (cell_two_new _ _ _ _) (by simp [Value.oneCell']) (by unfold maxLen; omega) (by omega) (by simp; omega) ?_; intro v' w2 hown2 hgrow2 _; have bF2 := (gF.alloc (.cells #[.int .i64 (x.1 : Int), .int .i64 (x.2 : Int)] 30)).grown hgrow2 (own_ne HO.out (Nat.lt_succ_self _)); have c3 : w2.cell? ⟨w1.heap.size, 1, none⟩ = some (.int .i64 (x.2 : Int)) := bF2.cell rfl; have HO2 := Lib.hid hown2; have hT2 : Tab w2 b o z := fun i hi => (World.cell?_of_block (a := ⟨b, o + i, none⟩) (hgrow2.block b (by have := HTr.out.lt; simp; omega) (own_ne HO.out (by have := hTlt; omega)))).trans (cell_al (.cells #[.int .i64 (x.1 : Int), .int .i64 (x.2 : Int)] 30) (HTr.out i hi)); have HT2 := Lib.hid hT2; clear hT2; have HB2 := Lib.hid ((HBr.out.alloc HBr.out.size (.cells #[.int .i64 (x.1 : Int), .int .i64 (x.2 : Int)] 30)).grown hgrow2 (by have := HBr.out.size; simp; omega) (fun k ek => by have := own_ge HO.out ek; omega)); clear hown2 hgrow2 c0 c1)
      ((with_reducible refine (HN.out _ _ _ HT2.out HR.out HH.out).mono ?_))
      rintro e w3 ⟨rfl, hb⟩
      have bF3 := bF2.below' hb
      have HT3 := Lib.hid (Tab.below HT2.out hb)
      have HB3 := Lib.hid (bstep HB2.out hb)
      have HO3 := Lib.hid (own_below HO2.out hb)
      clear hb bF2 HT2 HB2 HO2 c3
      go_wp2_with (refine wpList_store_blk rfl 30 _ _ rfl _ _ (hole2 ps[k + 1]?) 30 bF3 rfl rfl (by rw [hole2_size]; exact Try.infoHole2) (by rw [hole2_size, hole2_size]) (hole2_one _) ?_; intro W4 bR4 bK4 hB4 hs4)
      go_roundg (gk - 1)
      case measure => have := HG.out; omega
      case rel =>
        refine ⟨k + 1, by have := HG.out; omega, rfl, ?_, bR4, fun i hi => ?_, HB3.out.trans (hB4 _ h1w)⟩
        · rw [HV.out]
          exact own_blk HO3.out (fun B cs t hB h => bK4 B cs t (by omega) h)
        · have hlt3 := HT3.out.lt
          exact ((hB4 w1.heap.size (Nat.le_refl _)).cell (p := ⟨b, o + i, none⟩) hTlt).trans (HT3.out i hi)
    · have hx : ps[k]? = none := List.getElem?_eq_none (by omega)
      obtain rfl : k = ps.length := by omega
      rw [List.take_length] at HO
      rw [hx]
      clear hx gF
      rw [show (none : Option (Nat × Nat)).isSome = false from rfl]
      go_wp2
      go_ret2
      exact ⟨_, rfl, HL.own HO.out (by omega), HBr.out⟩
theorem rall_no (p : Option Addr) (n cap : Nat) (w : World) (hI : IC w p n) (hn : n ≤ 34) (hA : NoTab w (.slice p n cap)) :
    Calls Try.prog 11 #[.slice p n cap] w fun e w' => e = .returned (.tuple #[.slice none 0 0, .int .i64 70]) ∧ w = w' := by
  have HRT := Lib.hid (rright_no p n cap w hI hn hA)
  clear hI hA
  go_enter Try.func11, Try.ntmps11
  go_wp2_with (go_at_call 29; ((with_reducible refine HRT.out.mono ?_)); rintro e w' ⟨rfl, rfl⟩)
  go_ret2
  exact ⟨rfl, rfl⟩
end Go.Proofs.Ytgjhdjfjfmbejaa
