/-
  arena: Count.
-/
import Derived.Test.YtmikkbhillkpkaaDoorArG
import Derived.Deep.RegionHeld3
namespace Go.Proofs.YtmikkbhillkpkaaDoor
open Go.RowKit Go.Lib Go.Shelf
attribute [local go_sem] Oper.semAt_some

/-- How many bytes are not 0. -/
def cntB (bs : List UInt8) : Nat := bs.countP (· != 0)
def cntP (xs : List (Nat × UInt8)) : Nat := xs.countP (·.2 != 0)
theorem cntP_snoc (xs : List (Nat × UInt8)) (x : Nat × UInt8) : cntP (xs ++ [x]) = cntP xs + if x.2.toNat = 0 then 0 else 1 := by
  have e : (x.2 != 0) = !(decide (x.2.toNat = 0)) := by
    have : x.2 = 0 ↔ x.2.toNat = 0 := by rw [← UInt8.toNat_inj]; rfl
    rw [Bool.eq_iff_iff]
    simp [this]
  unfold cntP
  rw [List.countP_append]
  by_cases h : x.2.toNat = 0 <;> simp [e, h]
theorem cntP_le (xs : List (Nat × UInt8)) : cntP xs ≤ xs.length := List.countP_le_length
theorem bseg_bytes (bs : List UInt8) (f k : Nat) (h : f + k ≤ bs.length) : (bseg bs f k).map (·.2) = (bs.drop f).take k := by
  apply List.ext_getElem
  · simp [bseg]; omega
  · intro i h1 h2
    simp only [bseg, List.length_map, List.length_range] at h1
    simp only [bseg, List.map_map, List.getElem_map, List.getElem_range, Function.comp_apply, List.getElem_take, List.getElem_drop]
    rw [List.getD, List.getElem?_eq_getElem (by omega)]
    rfl
theorem cntP_all (bs : List UInt8) : cntP (bseg bs 0 bs.length) = cntB bs := by
  have h := bseg_bytes bs 0 bs.length (by omega)
  rw [List.drop_zero, List.take_length] at h
  have h2 : cntB ((bseg bs 0 bs.length).map (·.2)) = cntP (bseg bs 0 bs.length) := by
    unfold cntB
    rw [List.countP_map]
    rfl
  rw [← h2, h]

set_option maxRecDepth 100000 in
set_option maxHeartbeats 2000000 in
theorem count_ok (p g : Nat) (bs : List UInt8) (w : World) (hA : Ar w p g bs) (h0 : 0 < bs.length) :
    Calls Tryd.prog 29 #[.pointer (some ⟨p, 0, none⟩)] w fun e w' => e = .returned (.int .i64 (cntB bs : Int)) ∧ Below w.heap.size w w' := by
  refine (callsIn_wide (n := 9)).1 ?_
  refine callsIn_of_wp_marks Tryd.func29 rfl trivial ?_ rfl
  simp only [Tryd.ntmps29, List.size_toArray, List.length_cons, List.length_nil, Nat.reduceAdd, Nat.reduceSub, Array.replicate_succ, Array.replicate_zero, List.push_toArray, List.append_toArray, List.nil_append, List.cons_append]
  have hln := hA.len
  obtain ⟨b0, hB0, _⟩ := blk1 w #[.int .i64 0] 3
  have HA1 := Lib.hid (hA.below hB0).drew
  have HA := Lib.hid hA
  have hpl := hA.hp.lt
  have hgl := hA.hg.lt
  clear hA
  refine wpIn_wide.2 ?_
  go_wp2_with fail
  go_step3
  go_wp2_with fail
  go_step3
  go_wp2_with fail
  go_region_held3 (fun _ => True) (exact trivial) (first
    | (go_at_call 28; ((with_reducible refine (size_ok p g bs _ HA1.out).mono ?_)); rintro e w' ⟨rfl, rfl⟩)
    | (go_at_call 42; ((with_reducible refine (each_any _ _ _ _).mono ?_)); rintro e w' ⟨rfl, rfl⟩))
  go_wp2_with fail
  refine (wpIn_wide (n := 9)).1 ?_
  obtain ⟨c0, c1, c2, c3, hB1, hsz⟩ := blk4 w #[.int .i64 0] #[.pointer (some ⟨p, 0, none⟩)] #[.int .i64 0] #[.int .i64 (bs.length : Int)] 3 99 3 3
  have hA1 := (HA.out.below hB1).drew
  replace hB1 := hB1.drew
  replace c0 := c0.drew
  replace c1 := c1.drew
  replace c2 := c2.drew
  replace c3 := c3.drew
  rw [← World.size_drew] at hsz
  clear b0 hB0 HA1 HA
  generalize ((((w.alloc (.cells #[.int .i64 0] 3)).alloc (.cells #[.pointer (some ⟨p, 0, none⟩)] 99)).alloc (.cells #[.int .i64 0] 3)).alloc (.cells #[.int .i64 (bs.length : Int)] 3)).drew = W0 at c0 c1 c2 c3 hB1 hsz hA1 ⊢
  have HSZ := Lib.hid hsz
  clear hsz
  refine wpIn_rangeFunc_ownG rfl (by omega) (gf := 54) (lb := #[.pointer (some ⟨w.heap.size + 1, 0, none⟩), .pointer (some ⟨w.heap.size + 1 + 1, 0, none⟩), .pointer (some ⟨w.heap.size + 1 + 1 + 1, 0, none⟩)]) rfl trivial (enters_of Tryd.func54 (by kernel_rfl) rfl)
    (each1_stops _ (by omega) _ _ _ p g 0 bs.length bs _ hA1 (c1.cell rfl) (c2.cell rfl) (c3.cell rfl) h0 (by omega)) (fun h k => h.trans k) (KS.putObj (fun i hi => by simp at hi; have := HSZ.out; omega)) (Below.refl _ _) (fun _ => rfl)
    (fun pre W => Blk W w.heap.size #[.int .i64 (cntP pre : Int)] 3 ∧ Below w.heap.size w W)
    (fun _ _ _ => False)
    (((blk_own _ _ _).from _).and (ownFrom_below (Nat.le_refl _) (by have := HSZ.out; omega)))
    (fun c _ _ _ _ hs _ _ => hs)
    ⟨c0, hB1⟩
    (fun x => { tmps := #[.pointer (some ⟨p, 0, none⟩), undef, .int .i64 0, .pointer (some ⟨w.heap.size, 0, none⟩), undef, .int .u8 (x.2.toNat : Int), .pointer (some ⟨p, 0, none⟩), .bool false, .pointer (some ⟨p, 0, none⟩), .pointer (some ⟨p, 0, none⟩), .pointer (some ⟨p, 0, none⟩), .pointer (some ⟨p, 0, none⟩), .int .i64 (bs.length : Int), .func (.func 54) #[] #[.pointer (some ⟨w.heap.size + 1, 0, none⟩), .pointer (some ⟨w.heap.size + 1 + 1, 0, none⟩), .pointer (some ⟨w.heap.size + 1 + 1 + 1, 0, none⟩)], .int .i64 ((x.1 : Int) % (bs.length : Int)), .int .u8 (x.2.toNat : Int), undef, undef, undef, undef, undef], defers := [] }) ?assign ?body ?done ?stop
  case assign =>
    intro l x W K hK
    gi_wp2
    exact hK
  case body =>
    rintro l pre x W ⟨g0, g3⟩ hlen
    have c0 : W.cell? ⟨w.heap.size, 0, none⟩ = some (.int .i64 (cntP pre : Int)) := g0.cell rfl
    have f0 := g0.frozen 0
    have hle := cntP_le pre
    have hs := cntP_snoc pre x
    have HS := Lib.hid hs
    have hwl := g0.lt
    clear hs
    generalize cntP pre = c at c0 hle HS g0
    have G0 := Lib.hid g0
    clear g0 hA1
    by_cases hz : x.2.toNat = 0
    · have hb : ((x.2.toNat : Int) == 0) = true := by simpa using hz
      gi_wp2
      refine ⟨KeepsFrom.refl _ _, KS.refl _ _, ?_, g3⟩
      rw [HS.out, if_pos hz]
      exact G0.out
    · have hb : ((x.2.toNat : Int) == 0) = false := by simpa using hz
      gi_wp2
      refine ⟨(KeepsOthers.setCell _ _ _).from _, KS.setCell _ _ _ _ (fun i hi => by simp at hi; omega), ?_, g3.setCell (p := ⟨w.heap.size, 0, none⟩) (by simp) _⟩
      rw [HS.out, if_neg hz]
      exact G0.out.set 0 _
  case done =>
    rintro D xs W hD rfl ⟨g0, g3⟩ hK
    rw [cntP_all] at g0
    have c0 : W.cell? ⟨w.heap.size, 0, none⟩ = some (.int .i64 (cntB bs : Int)) := g0.cell rfl
    clear g0
    gi_wp2
    go_wp2
    try rw [Exit.noGoto_ret]
    refine ⟨by simp, .inl ⟨_, _, rfl, run_takeDeferred hK, ?_⟩⟩
    exact ⟨_, results_tmp rfl _ _ _, rfl, g3.trans (belowK_b (w := W0) (by have := HSZ.out; omega) _ D _ _ hD hK rfl rfl)⟩
  case stop =>
    rintro D c pre W _ _ h _
    exact h.elim
end Go.Proofs.YtmikkbhillkpkaaDoor
