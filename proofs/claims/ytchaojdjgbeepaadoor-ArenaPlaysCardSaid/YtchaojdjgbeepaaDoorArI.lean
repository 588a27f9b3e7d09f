/-
  arena: Load.
-/
import Derived.Test.YtchaojdjgbeepaaDoorArH
namespace Go.Proofs.YtchaojdjgbeepaaDoor
open Go.RowKit Go.Lib Go.Shelf
attribute [local go_sem] Oper.semAt_some

theorem load_bad (V : VR) (p g : Nat) (bs : List UInt8) (f : Int) (w : World) (hV : RV w V) (hA : Ar w p g bs) (hf : InI f) (h : ¬ okB bs.length f 4 4) :
    Calls Tryd.prog 12 #[.pointer (some ⟨p, 0, none⟩), .int .i64 f] w fun e w' => e = .returned (.tuple #[.int .u32 0, .int .i64 10]) ∧ Below w.heap.size w w' := by
  obtain ⟨b0, hB0, hs0⟩ := blk1 w #[.int .i64 f] 3
  have HR := Lib.hid (rdy_bad V p g bs f 4 4 _ (hV.below hB0) (hA.below hB0) (.inr rfl) hf h)
  rw [hs0] at HR
  have HV := Lib.hid (hV.below hB0)
  have HB0 := Lib.hid hB0
  have c0 : (w.alloc (.cells #[.int .i64 f] 3)).cell? ⟨w.heap.size, 0, none⟩ = some (.int .i64 f) := b0.cell rfl
  have HS := Lib.hid hs0
  clear hV hA hf h hs0 hB0 b0
  go_enter Tryd.func12, Tryd.ntmps12
  go_wp2_with fail
  ((with_reducible refine HR.out.mono ?_))
  rintro e w1 ⟨rfl, hb⟩
  rw [← HS.out] at hb
  have HB := Lib.hid hb
  clear hb
  go_wp2_with fail
  ((with_reducible refine (number_addr V _ (HV.out.below HB.out)).mono ?_))
  rintro e w' ⟨rfl, rfl⟩
  go_wp2
  go_ret2
  exact ⟨rfl, bstep HB0.out HB.out⟩

theorem or_u32 (a b : Nat) (ha : a < 4294967296) (hb : b < 4294967296) : bits .or .u32 (a : Int) (b : Int) = ((a ||| b : Nat) : Int) := by
  have hx : a ||| b < 2 ^ 32 := Nat.or_lt_two_pow (by omega) (by omega)
  have h1 : (BitVec.ofInt 32 (a : Int)).toNat = a := by
    rw [BitVec.ofInt_natCast, BitVec.toNat_ofNat]; exact Nat.mod_eq_of_lt (by omega)
  have h2 : (BitVec.ofInt 32 (b : Int)).toNat = b := by
    rw [BitVec.ofInt_natCast, BitVec.toNat_ofNat]; exact Nat.mod_eq_of_lt (by omega)
  show IntKind.u32.wrap ((BitVec.ofInt 32 (a : Int) ||| BitVec.ofInt 32 (b : Int)).toNat : Int) = _
  rw [BitVec.toNat_or, h1, h2, IntKind.wrap_u32]
  omega
theorem or_u32m (a y m : Nat) (ha : a < 4294967296) (hb : y * m < 4294967296) : bits .or .u32 (a : Int) ((y : Int) * (m : Int)) = ((a ||| y * m : Nat) : Int) := by
  rw [← or_u32 a (y * m) ha hb, Int.natCast_mul]
/-- What some bytes make, each at its place in a word. -/
def wordP (xs : List (Nat × UInt8)) : Nat := xs.foldl (fun a x => Nat.lor a (x.2.toNat * 256 ^ (x.1 % 4))) 0
theorem wordP_snoc (xs : List (Nat × UInt8)) (x : Nat × UInt8) : wordP (xs ++ [x]) = Nat.lor (wordP xs) (x.2.toNat * 256 ^ (x.1 % 4)) := by simp [wordP]
theorem part_lt (y j : Nat) (hy : y < 256) (hj : j < 4) : y * 256 ^ j < 2 ^ 32 := by
  match j, hj with
  | 0, _ => omega
  | 1, _ => omega
  | 2, _ => omega
  | 3, _ => omega
theorem wordP_lt (xs : List (Nat × UInt8)) : wordP xs < 4294967296 := by
  have : ∀ n (ys : List (Nat × UInt8)), ys.length = n → wordP ys < 2 ^ 32 := by
    intro n
    induction n with
    | zero => intro ys h; rw [List.length_eq_zero_iff.1 h]; decide
    | succ n ih =>
      intro ys h
      rcases List.eq_nil_or_concat ys with e | ⟨zs, z, e⟩
      · subst e; decide
      · rw [List.concat_eq_append] at e
        subst e
        rw [wordP_snoc]
        exact Nat.or_lt_two_pow (ih zs (by simpa using h)) (part_lt _ _ z.2.toNat_lt (Nat.mod_lt _ (by omega)))
  exact this _ xs rfl
/-- The word of the four bytes from place i on. -/
def word4 (bs : List UInt8) (i : Nat) : Nat := (bs.getD i 0).toNat + 256 * (bs.getD (i + 1) 0).toNat + 65536 * (bs.getD (i + 2) 0).toNat + 16777216 * (bs.getD (i + 3) 0).toNat
theorem lor_add (a y : Nat) (k : Nat) (h : a < 2 ^ k) : Nat.lor a (y * 2 ^ k) = a + y * 2 ^ k := by
  have := Nat.shiftLeft_add_eq_or_of_lt h y
  rw [Nat.shiftLeft_eq] at this
  show a ||| (y * 2 ^ k) = _
  rw [Nat.or_comm, ← this, Nat.add_comm]
theorem wordP_all (bs : List UInt8) (i : Nat) : wordP (bseg bs i 4) = word4 bs i := by
  have e : bseg bs i 4 = [(0, bs.getD (i + 0) 0), (1, bs.getD (i + 1) 0), (2, bs.getD (i + 2) 0), (3, bs.getD (i + 3) 0)] := rfl
  rw [e]
  simp only [wordP, List.foldl_cons, List.foldl_nil, word4, Nat.add_zero]
  have h0 := (bs.getD i 0).toNat_lt
  have h1 := (bs.getD (i + 1) 0).toNat_lt
  have h2 := (bs.getD (i + 2) 0).toNat_lt
  generalize (bs.getD i 0).toNat = a at *
  generalize (bs.getD (i + 1) 0).toNat = b at *
  generalize (bs.getD (i + 2) 0).toNat = c at *
  generalize (bs.getD (i + 3) 0).toNat = d at *
  have e0 : Nat.lor 0 (a * 256 ^ (0 % 4)) = a := by show 0 ||| _ = _; simp
  rw [e0]
  have e1 := lor_add a b 8 (by omega)
  have e2 := lor_add (a + b * 2 ^ 8) c 16 (by omega)
  have e3 := lor_add (a + b * 2 ^ 8 + c * 2 ^ 16) d 24 (by omega)
  rw [show 256 ^ (1 % 4) = 2 ^ 8 by rfl, e1, show 256 ^ (2 % 4) = 2 ^ 16 by rfl, e2, show 256 ^ (3 % 4) = 2 ^ 24 by rfl, e3]
  omega
theorem load_end {w W : World} {g i a b c c' : Nat} {pre : List (Nat × UInt8)} {B C : Nat} {act : Act} {v : Int} (hw : Blk W b #[.int .u32 (c : Int)] 27) (hs : wordP pre = c') (ha : Blk W a #[.int .i64 (i : Int)] 3) (hB : Below w.heap.size w W)
    (hv : v = (c' : Int)) (hab : a ≠ b) (hC : C ≠ b) (hg : g ≠ b) (hb : w.heap.size ≤ b) :
    ownPostG B (KS [C, g]) (fun pre W => Blk W b #[.int .u32 (wordP pre : Int)] 27 ∧ Blk W a #[.int .i64 (i : Int)] 3 ∧ Below w.heap.size w W) (fun _ _ _ => False) pre W .normal act (W.setCell ⟨b, 0, none⟩ (.int .u32 v)).drew := by
  have hk : KS [C, g] W (W.setCell ⟨b, 0, none⟩ (.int .u32 v)) := KS.setCell W b 0 _ (fun i hi => by simp at hi; omega)
  subst hv hs
  exact ⟨((KeepsOthers.setCell _ _ _).trans (KeepsOthers.drew _)).from _, ⟨hk.1, hk.2⟩, (hw.set 0 _).drew, (ha.other hab _ _).drew, (hB.setCell (p := ⟨b, 0, none⟩) hb _).drew⟩

set_option maxRecDepth 100000 in
set_option maxHeartbeats 2000000 in
theorem load_ok (p g : Nat) (bs : List UInt8) (i : Nat) (w : World) (hA : Ar w p g bs) (hi : i + 4 ≤ bs.length) (h4 : i % 4 = 0) :
    Calls Tryd.prog 12 #[.pointer (some ⟨p, 0, none⟩), .int .i64 (i : Int)] w fun e w' => e = .returned (.tuple #[.int .u32 (word4 bs i : Int), .int .i64 0]) ∧ Below w.heap.size w w' := by
  obtain ⟨b0, hB0, hs0⟩ := blk1 w #[.int .i64 (i : Int)] 3
  have HR := Lib.hid (rdy_ok p g bs i 4 4 _ (hA.below hB0) (.inr rfl) ⟨by omega, by omega, by omega, by omega⟩)
  rw [hs0] at HR
  have HB0 := Lib.hid hB0
  have c0 : (w.alloc (.cells #[.int .i64 (i : Int)] 3)).cell? ⟨w.heap.size, 0, none⟩ = some (.int .i64 (i : Int)) := b0.cell rfl
  have HA := Lib.hid (hA.below hB0)
  have hln := hA.len
  have hpl := hA.hp.lt
  have hgl := hA.hg.lt
  have Hb0 := Lib.hid b0
  have HS := Lib.hid hs0
  clear hA h4 hB0 hs0 b0
  refine (callsIn_wide (n := 9)).1 ?_
  refine callsIn_of_wp_marks Tryd.func12 rfl trivial ?_ rfl
  simp only [Tryd.ntmps12, List.size_toArray, List.length_cons, List.length_nil, Nat.reduceAdd, Nat.reduceSub, Array.replicate_succ, Array.replicate_zero, List.push_toArray, List.append_toArray, List.nil_append, List.cons_append]
  refine wpIn_wide.2 ?_
  go_wp2_with fail
  ((with_reducible refine HR.out.mono ?_))
  rintro e w1 ⟨rfl, hb⟩
  rw [← HS.out] at hb
  have hb0 := Hb0.out.below' hb
  have c1 : w1.cell? ⟨w.heap.size, 0, none⟩ = some (.int .i64 (i : Int)) := hb0.cell rfl
  have HB := Lib.hid hb
  have HA1 := Lib.hid (HA.out.below hb)
  have Hb1 := Lib.hid hb0
  clear hb HA Hb0 c0 hb0
  go_wp2_with fail
  go_region_held3 (fun w' => w'.cell? ⟨w.heap.size, 0, none⟩ = some (.int .i64 (i : Int))) ((show World.cell? _ _ = _; repeat' (with_reducible first | exact c1 | refine cell_dr ?_ | refine cell_al _ ?_))) (first
    | (go_at_call 30; ((with_reducible refine (each_any _ _ _ _).mono ?_)); rintro e w' ⟨rfl, rfl⟩))
  go_wp2_with fail
  refine (wpIn_wide (n := 9)).1 ?_
  obtain ⟨c0, c2, c3, c4, hB1, hsz⟩ := blk4 w1 #[.int .u32 0] #[.pointer (some ⟨p, 0, none⟩)] #[.int .i64 (i : Int)] #[.int .i64 4] 27 84 3 3
  have hA1 := (HA1.out.below hB1).drew
  have hat := (Hb1.out.below' hB1).drew
  have hle : w.heap.size < w1.heap.size := by have := HB.out.size; rw [HS.out] at this; omega
  replace hB1 := (bstep (bstep HB0.out HB.out) hB1).drew
  replace c0 := c0.drew
  replace c2 := c2.drew
  replace c3 := c3.drew
  replace c4 := c4.drew
  rw [← World.size_drew] at hsz
  clear HB0 HB HA1 Hb1 HR HS
  generalize ((((w1.alloc (.cells #[.int .u32 0] 27)).alloc (.cells #[.pointer (some ⟨p, 0, none⟩)] 84)).alloc (.cells #[.int .i64 (i : Int)] 3)).alloc (.cells #[.int .i64 4] 3)).drew = W0 at c0 c2 c3 c4 hB1 hsz hA1 hat ⊢
  have HSZ := Lib.hid hsz
  clear hsz c1
  refine wpIn_rangeFunc_ownG rfl (by omega) (gf := 44) (lb := #[.pointer (some ⟨w1.heap.size + 1, 0, none⟩), .pointer (some ⟨w1.heap.size + 1 + 1, 0, none⟩), .pointer (some ⟨w1.heap.size + 1 + 1 + 1, 0, none⟩)]) rfl trivial (enters_of Tryd.func44 (by kernel_rfl) rfl)
    (each1_stops _ (by omega) _ _ _ p g i 4 bs _ hA1 (c2.cell rfl) (c3.cell rfl) (c4.cell rfl) (by omega) (by omega)) (fun h k => h.trans k) (KS.putObj (fun i hi => by simp at hi; have := HSZ.out; omega)) (Below.refl _ _) (fun _ => rfl)
    (fun pre W => Blk W w1.heap.size #[.int .u32 (wordP pre : Int)] 27 ∧ Blk W w.heap.size #[.int .i64 (i : Int)] 3 ∧ Below w.heap.size w W)
    (fun _ _ _ => False)
    (((blk_own _ _ _).from _).and (((blk_own _ _ _).from _).and (ownFrom_below (Nat.le_refl _) (by have := HSZ.out; omega))))
    (fun c _ _ _ _ hs _ _ => hs)
    ⟨c0, hat, hB1⟩
    (fun x => { tmps := #[.pointer (some ⟨p, 0, none⟩), .int .i64 (i : Int), undef, .pointer (some ⟨w.heap.size, 0, none⟩), .int .u32 0, .int .i64 0, .nilIface, .pointer (some ⟨w1.heap.size, 0, none⟩), .int .i64 ((i : Int) + (x.1 : Int) % 4), .int .u8 (x.2.toNat : Int), .pointer (some ⟨p, 0, none⟩), .int .i64 (i : Int), .agg #[.int .i64 (i : Int), .int .i64 4, .int .i64 4], .slice (some ⟨w.heap.size + 1, 0, none⟩) 1 1, .nilIface, .nilIface, .bool false, undef, undef, .pointer (some ⟨p, 0, none⟩), .pointer (some ⟨p, 0, none⟩), .pointer (some ⟨p, 0, none⟩), .int .i64 (i : Int), .func (.func 44) #[] #[.pointer (some ⟨w1.heap.size + 1, 0, none⟩), .pointer (some ⟨w1.heap.size + 1 + 1, 0, none⟩), .pointer (some ⟨w1.heap.size + 1 + 1 + 1, 0, none⟩)], .int .i64 ((i : Int) + (x.1 : Int) % 4), .int .u8 (x.2.toNat : Int), undef, undef, undef, undef, undef, undef, undef, undef, undef, undef], defers := [] }) ?assign ?body ?done ?stop
  case assign =>
    intro l x W K hK
    gi_wp2
    exact hK
  case body =>
    rintro l pre x W ⟨g0, g1, g3⟩ hlen
    have cw : W.cell? ⟨w1.heap.size, 0, none⟩ = some (.int .u32 (wordP pre : Int)) := g0.cell rfl
    have ca : W.cell? ⟨w.heap.size, 0, none⟩ = some (.int .i64 (i : Int)) := g1.cell rfl
    have fw := g0.frozen 0
    have hwl := g0.lt
    have hs := wordP_snoc pre x
    have hc := wordP_lt pre
    obtain ⟨j, hj, hjx⟩ : ∃ j : Nat, x.1 % 4 = j ∧ (x.1 : Int) % 4 = (j : Int) := ⟨x.1 % 4, rfl, by omega⟩
    have hj4 : j < 4 := by omega
    rw [hj] at hs
    have hy : x.2.toNat < 256 := x.2.toNat_lt
    rw [hjx]
    generalize x.2.toNat = y at hy hs ⊢
    have hHS := Lib.hid hs
    generalize wordP pre = c at cw hc hHS g0
    have HW0 := Lib.hid g0
    have Hg0 := Lib.hid g1
    have Hg3 := Lib.hid g3
    have hmx : Tryd.prog.follows .mixedOrders = true := by kernel_rfl
    clear g0 g1 g3 hs hA1 hat c0 c2 c3 c4 hB1 hj hjx
    obtain rfl | rfl | rfl | rfl : j = 0 ∨ j = 1 ∨ j = 2 ∨ j = 3 := by omega
    · -- byte 0
      gi_wp2
      refine wpIn_region_any hmx ?_
      refine anyIn_round rfl (by rfl) _ _ _ _ ?_
      change wpAnyIn _ _ _ _ _ _ _ _ _ (World.drew _)
      refine wpAnyIn_take (i := 1) (v := .int .u8 (y : Int)) rfl rfl (by kernel_rfl) (by kernel_rfl) (by kernel_rfl) (fun _ _ _ h => h) ⟨Or.inl ⟨by rfl, ?_⟩, fun _ => rfl⟩ ?_
      · intro w; go_simp; try (first | exact IntWalk.u32_in _ (by omega) | (rw [IntWalk.i64_in _ (by omega)]; omega) | exact IntWalk.i64_in _ (by omega) | exact or_u32 c y hc (by omega) | exact or_u32m c y 1 hc (by omega))
      refine wpAnyIn_take (i := 2) (v := .int .u32 (y : Int)) rfl rfl (by kernel_rfl) (by kernel_rfl) (by kernel_rfl) (fun _ _ _ h => h) ⟨Or.inl ⟨by rfl, ?_⟩, fun _ => rfl⟩ ?_
      · intro w; go_simp; try (first | exact IntWalk.u32_in _ (by omega) | (rw [IntWalk.i64_in _ (by omega)]; omega) | exact IntWalk.i64_in _ (by omega) | exact or_u32 c y hc (by omega) | exact or_u32m c y 1 hc (by omega))
      refine wpAnyIn_take (i := 3) (v := .int .i64 (i : Int)) rfl rfl (by kernel_rfl) (by kernel_rfl) (by kernel_rfl) (fun _ _ _ h => h) ⟨Or.inl ⟨by rfl, ?_⟩, fun _ => rfl⟩ ?_
      · intro w; go_simp; try (first | exact IntWalk.u32_in _ (by omega) | (rw [IntWalk.i64_in _ (by omega)]; omega) | exact IntWalk.i64_in _ (by omega) | exact or_u32 c y hc (by omega) | exact or_u32m c y 1 hc (by omega))
      refine wpAnyIn_ready (rs := [0, 4]) (by kernel_rfl) (by simp) ?_
      refine AllReadyIn.cons rfl (fun K hK => ?_) (AllReadyIn.cons rfl (fun K hK => ?_) AllReadyIn.nil)
      · go_simp
        refine hK _ _ ?_
        clear hK K
        refine wpAnyIn_ready (rs := [4]) (by kernel_rfl) (by simp) ?_
        refine AllReadyIn.cons rfl (fun K hK => ?_) AllReadyIn.nil
        go_simp
        refine hK _ _ ?_
        clear hK K
        refine wpAnyIn_take (i := 5) (v := .int .i64 0) rfl rfl (by kernel_rfl) (by kernel_rfl) (by kernel_rfl) (fun _ _ _ h => h) ⟨Or.inl ⟨by rfl, ?_⟩, fun _ => rfl⟩ ?_
        · intro w; go_simp; try (first | exact IntWalk.u32_in _ (by omega) | (rw [IntWalk.i64_in _ (by omega)]; omega) | exact IntWalk.i64_in _ (by omega) | exact or_u32 c y hc (by omega) | exact or_u32m c y 1 hc (by omega))
        refine wpAnyIn_take (i := 6) (v := .int .i64 0) rfl rfl (by kernel_rfl) (by kernel_rfl) (by kernel_rfl) (fun _ _ _ h => h) ⟨Or.inl ⟨by rfl, ?_⟩, fun _ => rfl⟩ ?_
        · intro w; go_simp; try (first | exact IntWalk.u32_in _ (by omega) | (rw [IntWalk.i64_in _ (by omega)]; omega) | exact IntWalk.i64_in _ (by omega) | exact or_u32 c y hc (by omega) | exact or_u32m c y 1 hc (by omega))
        refine wpAnyIn_take (i := 7) (v := .int .u32 (y : Int)) rfl rfl (by kernel_rfl) (by kernel_rfl) (by kernel_rfl) (fun _ _ _ h => h) ⟨Or.inl ⟨by rfl, ?_⟩, fun _ => rfl⟩ ?_
        · intro w; go_simp; try (first | exact IntWalk.u32_in _ (by omega) | (rw [IntWalk.i64_in _ (by omega)]; omega) | exact IntWalk.i64_in _ (by omega) | exact or_u32 c y hc (by omega) | exact or_u32m c y 1 hc (by omega))
        refine wpAnyIn_take (i := 8) (v := .int .u32 ((Nat.lor c (y * 1) : Nat) : Int)) rfl rfl (by kernel_rfl) (by kernel_rfl) (by kernel_rfl) (fun _ _ _ h => h) ⟨Or.inl ⟨by rfl, ?_⟩, fun _ => rfl⟩ ?_
        · intro w; go_simp; try (first | exact IntWalk.u32_in _ (by omega) | (rw [IntWalk.i64_in _ (by omega)]; omega) | exact IntWalk.i64_in _ (by omega) | exact or_u32 c y hc (by omega) | exact or_u32m c y 1 hc (by omega))
        refine wpAnyIn_ready (rs := [9]) (by kernel_rfl) (by simp) ?_
        refine AllReadyIn.cons rfl (fun K hK => ?_) AllReadyIn.nil
        go_simp
        refine hK _ _ ?_
        clear hK K
        refine wpAnyIn_done (by kernel_rfl) ?_ _
        exact load_end (act := { tmps := #[], defers := [] }) HW0.out hHS.out Hg0.out Hg3.out (by simp) (by omega) (by omega) (by omega) (by omega)
      · go_simp
        refine hK _ _ ?_
        clear hK K
        refine wpAnyIn_take (i := 5) (v := .int .i64 0) rfl rfl (by kernel_rfl) (by kernel_rfl) (by kernel_rfl) (fun _ _ _ h => h) ⟨Or.inl ⟨by rfl, ?_⟩, fun _ => rfl⟩ ?_
        · intro w; go_simp; try (first | exact IntWalk.u32_in _ (by omega) | (rw [IntWalk.i64_in _ (by omega)]; omega) | exact IntWalk.i64_in _ (by omega) | exact or_u32 c y hc (by omega) | exact or_u32m c y 1 hc (by omega))
        refine wpAnyIn_take (i := 6) (v := .int .i64 0) rfl rfl (by kernel_rfl) (by kernel_rfl) (by kernel_rfl) (fun _ _ _ h => h) ⟨Or.inl ⟨by rfl, ?_⟩, fun _ => rfl⟩ ?_
        · intro w; go_simp; try (first | exact IntWalk.u32_in _ (by omega) | (rw [IntWalk.i64_in _ (by omega)]; omega) | exact IntWalk.i64_in _ (by omega) | exact or_u32 c y hc (by omega) | exact or_u32m c y 1 hc (by omega))
        refine wpAnyIn_take (i := 7) (v := .int .u32 (y : Int)) rfl rfl (by kernel_rfl) (by kernel_rfl) (by kernel_rfl) (fun _ _ _ h => h) ⟨Or.inl ⟨by rfl, ?_⟩, fun _ => rfl⟩ ?_
        · intro w; go_simp; try (first | exact IntWalk.u32_in _ (by omega) | (rw [IntWalk.i64_in _ (by omega)]; omega) | exact IntWalk.i64_in _ (by omega) | exact or_u32 c y hc (by omega) | exact or_u32m c y 1 hc (by omega))
        refine wpAnyIn_ready (rs := [0]) (by kernel_rfl) (by simp) ?_
        refine AllReadyIn.cons rfl (fun K hK => ?_) AllReadyIn.nil
        go_simp
        refine hK _ _ ?_
        clear hK K
        refine wpAnyIn_take (i := 8) (v := .int .u32 ((Nat.lor c (y * 1) : Nat) : Int)) rfl rfl (by kernel_rfl) (by kernel_rfl) (by kernel_rfl) (fun _ _ _ h => h) ⟨Or.inl ⟨by rfl, ?_⟩, fun _ => rfl⟩ ?_
        · intro w; go_simp; try (first | exact IntWalk.u32_in _ (by omega) | (rw [IntWalk.i64_in _ (by omega)]; omega) | exact IntWalk.i64_in _ (by omega) | exact or_u32 c y hc (by omega) | exact or_u32m c y 1 hc (by omega))
        refine wpAnyIn_ready (rs := [9]) (by kernel_rfl) (by simp) ?_
        refine AllReadyIn.cons rfl (fun K hK => ?_) AllReadyIn.nil
        go_simp
        refine hK _ _ ?_
        clear hK K
        refine wpAnyIn_done (by kernel_rfl) ?_ _
        exact load_end (act := { tmps := #[], defers := [] }) HW0.out hHS.out Hg0.out Hg3.out (by simp) (by omega) (by omega) (by omega) (by omega)
    · -- byte 1
      gi_wp2
      refine wpIn_region_any hmx ?_
      refine anyIn_round rfl (by rfl) _ _ _ _ ?_
      change wpAnyIn _ _ _ _ _ _ _ _ _ (World.drew _)
      refine wpAnyIn_take (i := 1) (v := .int .u8 (y : Int)) rfl rfl (by kernel_rfl) (by kernel_rfl) (by kernel_rfl) (fun _ _ _ h => h) ⟨Or.inl ⟨by rfl, ?_⟩, fun _ => rfl⟩ ?_
      · intro w; go_simp; try (first | exact IntWalk.u32_in _ (by omega) | (rw [IntWalk.i64_in _ (by omega)]; omega) | exact IntWalk.i64_in _ (by omega) | exact or_u32 c y hc (by omega) | exact or_u32m c y 256 hc (by omega))
      refine wpAnyIn_take (i := 2) (v := .int .u32 (y : Int)) rfl rfl (by kernel_rfl) (by kernel_rfl) (by kernel_rfl) (fun _ _ _ h => h) ⟨Or.inl ⟨by rfl, ?_⟩, fun _ => rfl⟩ ?_
      · intro w; go_simp; try (first | exact IntWalk.u32_in _ (by omega) | (rw [IntWalk.i64_in _ (by omega)]; omega) | exact IntWalk.i64_in _ (by omega) | exact or_u32 c y hc (by omega) | exact or_u32m c y 256 hc (by omega))
      refine wpAnyIn_take (i := 3) (v := .int .i64 ((i : Int) + 1)) rfl rfl (by kernel_rfl) (by kernel_rfl) (by kernel_rfl) (fun _ _ _ h => h) ⟨Or.inl ⟨by rfl, ?_⟩, fun _ => rfl⟩ ?_
      · intro w; go_simp; try (first | exact IntWalk.u32_in _ (by omega) | (rw [IntWalk.i64_in _ (by omega)]; omega) | exact IntWalk.i64_in _ (by omega) | exact or_u32 c y hc (by omega) | exact or_u32m c y 256 hc (by omega))
      refine wpAnyIn_ready (rs := [0, 4]) (by kernel_rfl) (by simp) ?_
      refine AllReadyIn.cons rfl (fun K hK => ?_) (AllReadyIn.cons rfl (fun K hK => ?_) AllReadyIn.nil)
      · go_simp
        refine hK _ _ ?_
        clear hK K
        refine wpAnyIn_ready (rs := [4]) (by kernel_rfl) (by simp) ?_
        refine AllReadyIn.cons rfl (fun K hK => ?_) AllReadyIn.nil
        go_simp
        refine hK _ _ ?_
        clear hK K
        refine wpAnyIn_take (i := 5) (v := .int .i64 1) rfl rfl (by kernel_rfl) (by kernel_rfl) (by kernel_rfl) (fun _ _ _ h => h) ⟨Or.inl ⟨by rfl, ?_⟩, fun _ => rfl⟩ ?_
        · intro w; go_simp; try (first | exact IntWalk.u32_in _ (by omega) | (rw [IntWalk.i64_in _ (by omega)]; omega) | exact IntWalk.i64_in _ (by omega) | exact or_u32 c y hc (by omega) | exact or_u32m c y 256 hc (by omega))
        refine wpAnyIn_take (i := 6) (v := .int .i64 8) rfl rfl (by kernel_rfl) (by kernel_rfl) (by kernel_rfl) (fun _ _ _ h => h) ⟨Or.inl ⟨by rfl, ?_⟩, fun _ => rfl⟩ ?_
        · intro w; go_simp; try (first | exact IntWalk.u32_in _ (by omega) | (rw [IntWalk.i64_in _ (by omega)]; omega) | exact IntWalk.i64_in _ (by omega) | exact or_u32 c y hc (by omega) | exact or_u32m c y 256 hc (by omega))
        refine wpAnyIn_take (i := 7) (v := .int .u32 ((y : Int) * 256)) rfl rfl (by kernel_rfl) (by kernel_rfl) (by kernel_rfl) (fun _ _ _ h => h) ⟨Or.inl ⟨by rfl, ?_⟩, fun _ => rfl⟩ ?_
        · intro w; go_simp; try (first | exact IntWalk.u32_in _ (by omega) | (rw [IntWalk.i64_in _ (by omega)]; omega) | exact IntWalk.i64_in _ (by omega) | exact or_u32 c y hc (by omega) | exact or_u32m c y 256 hc (by omega))
        refine wpAnyIn_take (i := 8) (v := .int .u32 ((Nat.lor c (y * 256) : Nat) : Int)) rfl rfl (by kernel_rfl) (by kernel_rfl) (by kernel_rfl) (fun _ _ _ h => h) ⟨Or.inl ⟨by rfl, ?_⟩, fun _ => rfl⟩ ?_
        · intro w; go_simp; try (first | exact IntWalk.u32_in _ (by omega) | (rw [IntWalk.i64_in _ (by omega)]; omega) | exact IntWalk.i64_in _ (by omega) | exact or_u32 c y hc (by omega) | exact or_u32m c y 256 hc (by omega))
        refine wpAnyIn_ready (rs := [9]) (by kernel_rfl) (by simp) ?_
        refine AllReadyIn.cons rfl (fun K hK => ?_) AllReadyIn.nil
        go_simp
        refine hK _ _ ?_
        clear hK K
        refine wpAnyIn_done (by kernel_rfl) ?_ _
        exact load_end (act := { tmps := #[], defers := [] }) HW0.out hHS.out Hg0.out Hg3.out rfl (by omega) (by omega) (by omega) (by omega)
      · go_simp
        refine hK _ _ ?_
        clear hK K
        refine wpAnyIn_take (i := 5) (v := .int .i64 1) rfl rfl (by kernel_rfl) (by kernel_rfl) (by kernel_rfl) (fun _ _ _ h => h) ⟨Or.inl ⟨by rfl, ?_⟩, fun _ => rfl⟩ ?_
        · intro w; go_simp; try (first | exact IntWalk.u32_in _ (by omega) | (rw [IntWalk.i64_in _ (by omega)]; omega) | exact IntWalk.i64_in _ (by omega) | exact or_u32 c y hc (by omega) | exact or_u32m c y 256 hc (by omega))
        refine wpAnyIn_take (i := 6) (v := .int .i64 8) rfl rfl (by kernel_rfl) (by kernel_rfl) (by kernel_rfl) (fun _ _ _ h => h) ⟨Or.inl ⟨by rfl, ?_⟩, fun _ => rfl⟩ ?_
        · intro w; go_simp; try (first | exact IntWalk.u32_in _ (by omega) | (rw [IntWalk.i64_in _ (by omega)]; omega) | exact IntWalk.i64_in _ (by omega) | exact or_u32 c y hc (by omega) | exact or_u32m c y 256 hc (by omega))
        refine wpAnyIn_take (i := 7) (v := .int .u32 ((y : Int) * 256)) rfl rfl (by kernel_rfl) (by kernel_rfl) (by kernel_rfl) (fun _ _ _ h => h) ⟨Or.inl ⟨by rfl, ?_⟩, fun _ => rfl⟩ ?_
        · intro w; go_simp; try (first | exact IntWalk.u32_in _ (by omega) | (rw [IntWalk.i64_in _ (by omega)]; omega) | exact IntWalk.i64_in _ (by omega) | exact or_u32 c y hc (by omega) | exact or_u32m c y 256 hc (by omega))
        refine wpAnyIn_ready (rs := [0]) (by kernel_rfl) (by simp) ?_
        refine AllReadyIn.cons rfl (fun K hK => ?_) AllReadyIn.nil
        go_simp
        refine hK _ _ ?_
        clear hK K
        refine wpAnyIn_take (i := 8) (v := .int .u32 ((Nat.lor c (y * 256) : Nat) : Int)) rfl rfl (by kernel_rfl) (by kernel_rfl) (by kernel_rfl) (fun _ _ _ h => h) ⟨Or.inl ⟨by rfl, ?_⟩, fun _ => rfl⟩ ?_
        · intro w; go_simp; try (first | exact IntWalk.u32_in _ (by omega) | (rw [IntWalk.i64_in _ (by omega)]; omega) | exact IntWalk.i64_in _ (by omega) | exact or_u32 c y hc (by omega) | exact or_u32m c y 256 hc (by omega))
        refine wpAnyIn_ready (rs := [9]) (by kernel_rfl) (by simp) ?_
        refine AllReadyIn.cons rfl (fun K hK => ?_) AllReadyIn.nil
        go_simp
        refine hK _ _ ?_
        clear hK K
        refine wpAnyIn_done (by kernel_rfl) ?_ _
        exact load_end (act := { tmps := #[], defers := [] }) HW0.out hHS.out Hg0.out Hg3.out rfl (by omega) (by omega) (by omega) (by omega)
    · -- byte 2
      gi_wp2
      refine wpIn_region_any hmx ?_
      refine anyIn_round rfl (by rfl) _ _ _ _ ?_
      change wpAnyIn _ _ _ _ _ _ _ _ _ (World.drew _)
      refine wpAnyIn_take (i := 1) (v := .int .u8 (y : Int)) rfl rfl (by kernel_rfl) (by kernel_rfl) (by kernel_rfl) (fun _ _ _ h => h) ⟨Or.inl ⟨by rfl, ?_⟩, fun _ => rfl⟩ ?_
      · intro w; go_simp; try (first | exact IntWalk.u32_in _ (by omega) | (rw [IntWalk.i64_in _ (by omega)]; omega) | exact IntWalk.i64_in _ (by omega) | exact or_u32 c y hc (by omega) | exact or_u32m c y 65536 hc (by omega))
      refine wpAnyIn_take (i := 2) (v := .int .u32 (y : Int)) rfl rfl (by kernel_rfl) (by kernel_rfl) (by kernel_rfl) (fun _ _ _ h => h) ⟨Or.inl ⟨by rfl, ?_⟩, fun _ => rfl⟩ ?_
      · intro w; go_simp; try (first | exact IntWalk.u32_in _ (by omega) | (rw [IntWalk.i64_in _ (by omega)]; omega) | exact IntWalk.i64_in _ (by omega) | exact or_u32 c y hc (by omega) | exact or_u32m c y 65536 hc (by omega))
      refine wpAnyIn_take (i := 3) (v := .int .i64 ((i : Int) + 2)) rfl rfl (by kernel_rfl) (by kernel_rfl) (by kernel_rfl) (fun _ _ _ h => h) ⟨Or.inl ⟨by rfl, ?_⟩, fun _ => rfl⟩ ?_
      · intro w; go_simp; try (first | exact IntWalk.u32_in _ (by omega) | (rw [IntWalk.i64_in _ (by omega)]; omega) | exact IntWalk.i64_in _ (by omega) | exact or_u32 c y hc (by omega) | exact or_u32m c y 65536 hc (by omega))
      refine wpAnyIn_ready (rs := [0, 4]) (by kernel_rfl) (by simp) ?_
      refine AllReadyIn.cons rfl (fun K hK => ?_) (AllReadyIn.cons rfl (fun K hK => ?_) AllReadyIn.nil)
      · go_simp
        refine hK _ _ ?_
        clear hK K
        refine wpAnyIn_ready (rs := [4]) (by kernel_rfl) (by simp) ?_
        refine AllReadyIn.cons rfl (fun K hK => ?_) AllReadyIn.nil
        go_simp
        refine hK _ _ ?_
        clear hK K
        refine wpAnyIn_take (i := 5) (v := .int .i64 2) rfl rfl (by kernel_rfl) (by kernel_rfl) (by kernel_rfl) (fun _ _ _ h => h) ⟨Or.inl ⟨by rfl, ?_⟩, fun _ => rfl⟩ ?_
        · intro w; go_simp; try (first | exact IntWalk.u32_in _ (by omega) | (rw [IntWalk.i64_in _ (by omega)]; omega) | exact IntWalk.i64_in _ (by omega) | exact or_u32 c y hc (by omega) | exact or_u32m c y 65536 hc (by omega))
        refine wpAnyIn_take (i := 6) (v := .int .i64 16) rfl rfl (by kernel_rfl) (by kernel_rfl) (by kernel_rfl) (fun _ _ _ h => h) ⟨Or.inl ⟨by rfl, ?_⟩, fun _ => rfl⟩ ?_
        · intro w; go_simp; try (first | exact IntWalk.u32_in _ (by omega) | (rw [IntWalk.i64_in _ (by omega)]; omega) | exact IntWalk.i64_in _ (by omega) | exact or_u32 c y hc (by omega) | exact or_u32m c y 65536 hc (by omega))
        refine wpAnyIn_take (i := 7) (v := .int .u32 ((y : Int) * 65536)) rfl rfl (by kernel_rfl) (by kernel_rfl) (by kernel_rfl) (fun _ _ _ h => h) ⟨Or.inl ⟨by rfl, ?_⟩, fun _ => rfl⟩ ?_
        · intro w; go_simp; try (first | exact IntWalk.u32_in _ (by omega) | (rw [IntWalk.i64_in _ (by omega)]; omega) | exact IntWalk.i64_in _ (by omega) | exact or_u32 c y hc (by omega) | exact or_u32m c y 65536 hc (by omega))
        refine wpAnyIn_take (i := 8) (v := .int .u32 ((Nat.lor c (y * 65536) : Nat) : Int)) rfl rfl (by kernel_rfl) (by kernel_rfl) (by kernel_rfl) (fun _ _ _ h => h) ⟨Or.inl ⟨by rfl, ?_⟩, fun _ => rfl⟩ ?_
        · intro w; go_simp; try (first | exact IntWalk.u32_in _ (by omega) | (rw [IntWalk.i64_in _ (by omega)]; omega) | exact IntWalk.i64_in _ (by omega) | exact or_u32 c y hc (by omega) | exact or_u32m c y 65536 hc (by omega))
        refine wpAnyIn_ready (rs := [9]) (by kernel_rfl) (by simp) ?_
        refine AllReadyIn.cons rfl (fun K hK => ?_) AllReadyIn.nil
        go_simp
        refine hK _ _ ?_
        clear hK K
        refine wpAnyIn_done (by kernel_rfl) ?_ _
        exact load_end (act := { tmps := #[], defers := [] }) HW0.out hHS.out Hg0.out Hg3.out rfl (by omega) (by omega) (by omega) (by omega)
      · go_simp
        refine hK _ _ ?_
        clear hK K
        refine wpAnyIn_take (i := 5) (v := .int .i64 2) rfl rfl (by kernel_rfl) (by kernel_rfl) (by kernel_rfl) (fun _ _ _ h => h) ⟨Or.inl ⟨by rfl, ?_⟩, fun _ => rfl⟩ ?_
        · intro w; go_simp; try (first | exact IntWalk.u32_in _ (by omega) | (rw [IntWalk.i64_in _ (by omega)]; omega) | exact IntWalk.i64_in _ (by omega) | exact or_u32 c y hc (by omega) | exact or_u32m c y 65536 hc (by omega))
        refine wpAnyIn_take (i := 6) (v := .int .i64 16) rfl rfl (by kernel_rfl) (by kernel_rfl) (by kernel_rfl) (fun _ _ _ h => h) ⟨Or.inl ⟨by rfl, ?_⟩, fun _ => rfl⟩ ?_
        · intro w; go_simp; try (first | exact IntWalk.u32_in _ (by omega) | (rw [IntWalk.i64_in _ (by omega)]; omega) | exact IntWalk.i64_in _ (by omega) | exact or_u32 c y hc (by omega) | exact or_u32m c y 65536 hc (by omega))
        refine wpAnyIn_take (i := 7) (v := .int .u32 ((y : Int) * 65536)) rfl rfl (by kernel_rfl) (by kernel_rfl) (by kernel_rfl) (fun _ _ _ h => h) ⟨Or.inl ⟨by rfl, ?_⟩, fun _ => rfl⟩ ?_
        · intro w; go_simp; try (first | exact IntWalk.u32_in _ (by omega) | (rw [IntWalk.i64_in _ (by omega)]; omega) | exact IntWalk.i64_in _ (by omega) | exact or_u32 c y hc (by omega) | exact or_u32m c y 65536 hc (by omega))
        refine wpAnyIn_ready (rs := [0]) (by kernel_rfl) (by simp) ?_
        refine AllReadyIn.cons rfl (fun K hK => ?_) AllReadyIn.nil
        go_simp
        refine hK _ _ ?_
        clear hK K
        refine wpAnyIn_take (i := 8) (v := .int .u32 ((Nat.lor c (y * 65536) : Nat) : Int)) rfl rfl (by kernel_rfl) (by kernel_rfl) (by kernel_rfl) (fun _ _ _ h => h) ⟨Or.inl ⟨by rfl, ?_⟩, fun _ => rfl⟩ ?_
        · intro w; go_simp; try (first | exact IntWalk.u32_in _ (by omega) | (rw [IntWalk.i64_in _ (by omega)]; omega) | exact IntWalk.i64_in _ (by omega) | exact or_u32 c y hc (by omega) | exact or_u32m c y 65536 hc (by omega))
        refine wpAnyIn_ready (rs := [9]) (by kernel_rfl) (by simp) ?_
        refine AllReadyIn.cons rfl (fun K hK => ?_) AllReadyIn.nil
        go_simp
        refine hK _ _ ?_
        clear hK K
        refine wpAnyIn_done (by kernel_rfl) ?_ _
        exact load_end (act := { tmps := #[], defers := [] }) HW0.out hHS.out Hg0.out Hg3.out rfl (by omega) (by omega) (by omega) (by omega)
    · -- byte 3
      gi_wp2
      refine wpIn_region_any hmx ?_
      refine anyIn_round rfl (by rfl) _ _ _ _ ?_
      change wpAnyIn _ _ _ _ _ _ _ _ _ (World.drew _)
      refine wpAnyIn_take (i := 1) (v := .int .u8 (y : Int)) rfl rfl (by kernel_rfl) (by kernel_rfl) (by kernel_rfl) (fun _ _ _ h => h) ⟨Or.inl ⟨by rfl, ?_⟩, fun _ => rfl⟩ ?_
      · intro w; go_simp; try (first | exact IntWalk.u32_in _ (by omega) | (rw [IntWalk.i64_in _ (by omega)]; omega) | exact IntWalk.i64_in _ (by omega) | exact or_u32 c y hc (by omega) | exact or_u32m c y 16777216 hc (by omega))
      refine wpAnyIn_take (i := 2) (v := .int .u32 (y : Int)) rfl rfl (by kernel_rfl) (by kernel_rfl) (by kernel_rfl) (fun _ _ _ h => h) ⟨Or.inl ⟨by rfl, ?_⟩, fun _ => rfl⟩ ?_
      · intro w; go_simp; try (first | exact IntWalk.u32_in _ (by omega) | (rw [IntWalk.i64_in _ (by omega)]; omega) | exact IntWalk.i64_in _ (by omega) | exact or_u32 c y hc (by omega) | exact or_u32m c y 16777216 hc (by omega))
      refine wpAnyIn_take (i := 3) (v := .int .i64 ((i : Int) + 3)) rfl rfl (by kernel_rfl) (by kernel_rfl) (by kernel_rfl) (fun _ _ _ h => h) ⟨Or.inl ⟨by rfl, ?_⟩, fun _ => rfl⟩ ?_
      · intro w; go_simp; try (first | exact IntWalk.u32_in _ (by omega) | (rw [IntWalk.i64_in _ (by omega)]; omega) | exact IntWalk.i64_in _ (by omega) | exact or_u32 c y hc (by omega) | exact or_u32m c y 16777216 hc (by omega))
      refine wpAnyIn_ready (rs := [0, 4]) (by kernel_rfl) (by simp) ?_
      refine AllReadyIn.cons rfl (fun K hK => ?_) (AllReadyIn.cons rfl (fun K hK => ?_) AllReadyIn.nil)
      · go_simp
        refine hK _ _ ?_
        clear hK K
        refine wpAnyIn_ready (rs := [4]) (by kernel_rfl) (by simp) ?_
        refine AllReadyIn.cons rfl (fun K hK => ?_) AllReadyIn.nil
        go_simp
        refine hK _ _ ?_
        clear hK K
        refine wpAnyIn_take (i := 5) (v := .int .i64 3) rfl rfl (by kernel_rfl) (by kernel_rfl) (by kernel_rfl) (fun _ _ _ h => h) ⟨Or.inl ⟨by rfl, ?_⟩, fun _ => rfl⟩ ?_
        · intro w; go_simp; try (first | exact IntWalk.u32_in _ (by omega) | (rw [IntWalk.i64_in _ (by omega)]; omega) | exact IntWalk.i64_in _ (by omega) | exact or_u32 c y hc (by omega) | exact or_u32m c y 16777216 hc (by omega))
        refine wpAnyIn_take (i := 6) (v := .int .i64 24) rfl rfl (by kernel_rfl) (by kernel_rfl) (by kernel_rfl) (fun _ _ _ h => h) ⟨Or.inl ⟨by rfl, ?_⟩, fun _ => rfl⟩ ?_
        · intro w; go_simp; try (first | exact IntWalk.u32_in _ (by omega) | (rw [IntWalk.i64_in _ (by omega)]; omega) | exact IntWalk.i64_in _ (by omega) | exact or_u32 c y hc (by omega) | exact or_u32m c y 16777216 hc (by omega))
        refine wpAnyIn_take (i := 7) (v := .int .u32 ((y : Int) * 16777216)) rfl rfl (by kernel_rfl) (by kernel_rfl) (by kernel_rfl) (fun _ _ _ h => h) ⟨Or.inl ⟨by rfl, ?_⟩, fun _ => rfl⟩ ?_
        · intro w; go_simp; try (first | exact IntWalk.u32_in _ (by omega) | (rw [IntWalk.i64_in _ (by omega)]; omega) | exact IntWalk.i64_in _ (by omega) | exact or_u32 c y hc (by omega) | exact or_u32m c y 16777216 hc (by omega))
        refine wpAnyIn_take (i := 8) (v := .int .u32 ((Nat.lor c (y * 16777216) : Nat) : Int)) rfl rfl (by kernel_rfl) (by kernel_rfl) (by kernel_rfl) (fun _ _ _ h => h) ⟨Or.inl ⟨by rfl, ?_⟩, fun _ => rfl⟩ ?_
        · intro w; go_simp; try (first | exact IntWalk.u32_in _ (by omega) | (rw [IntWalk.i64_in _ (by omega)]; omega) | exact IntWalk.i64_in _ (by omega) | exact or_u32 c y hc (by omega) | exact or_u32m c y 16777216 hc (by omega))
        refine wpAnyIn_ready (rs := [9]) (by kernel_rfl) (by simp) ?_
        refine AllReadyIn.cons rfl (fun K hK => ?_) AllReadyIn.nil
        go_simp
        refine hK _ _ ?_
        clear hK K
        refine wpAnyIn_done (by kernel_rfl) ?_ _
        exact load_end (act := { tmps := #[], defers := [] }) HW0.out hHS.out Hg0.out Hg3.out rfl (by omega) (by omega) (by omega) (by omega)
      · go_simp
        refine hK _ _ ?_
        clear hK K
        refine wpAnyIn_take (i := 5) (v := .int .i64 3) rfl rfl (by kernel_rfl) (by kernel_rfl) (by kernel_rfl) (fun _ _ _ h => h) ⟨Or.inl ⟨by rfl, ?_⟩, fun _ => rfl⟩ ?_
        · intro w; go_simp; try (first | exact IntWalk.u32_in _ (by omega) | (rw [IntWalk.i64_in _ (by omega)]; omega) | exact IntWalk.i64_in _ (by omega) | exact or_u32 c y hc (by omega) | exact or_u32m c y 16777216 hc (by omega))
        refine wpAnyIn_take (i := 6) (v := .int .i64 24) rfl rfl (by kernel_rfl) (by kernel_rfl) (by kernel_rfl) (fun _ _ _ h => h) ⟨Or.inl ⟨by rfl, ?_⟩, fun _ => rfl⟩ ?_
        · intro w; go_simp; try (first | exact IntWalk.u32_in _ (by omega) | (rw [IntWalk.i64_in _ (by omega)]; omega) | exact IntWalk.i64_in _ (by omega) | exact or_u32 c y hc (by omega) | exact or_u32m c y 16777216 hc (by omega))
        refine wpAnyIn_take (i := 7) (v := .int .u32 ((y : Int) * 16777216)) rfl rfl (by kernel_rfl) (by kernel_rfl) (by kernel_rfl) (fun _ _ _ h => h) ⟨Or.inl ⟨by rfl, ?_⟩, fun _ => rfl⟩ ?_
        · intro w; go_simp; try (first | exact IntWalk.u32_in _ (by omega) | (rw [IntWalk.i64_in _ (by omega)]; omega) | exact IntWalk.i64_in _ (by omega) | exact or_u32 c y hc (by omega) | exact or_u32m c y 16777216 hc (by omega))
        refine wpAnyIn_ready (rs := [0]) (by kernel_rfl) (by simp) ?_
        refine AllReadyIn.cons rfl (fun K hK => ?_) AllReadyIn.nil
        go_simp
        refine hK _ _ ?_
        clear hK K
        refine wpAnyIn_take (i := 8) (v := .int .u32 ((Nat.lor c (y * 16777216) : Nat) : Int)) rfl rfl (by kernel_rfl) (by kernel_rfl) (by kernel_rfl) (fun _ _ _ h => h) ⟨Or.inl ⟨by rfl, ?_⟩, fun _ => rfl⟩ ?_
        · intro w; go_simp; try (first | exact IntWalk.u32_in _ (by omega) | (rw [IntWalk.i64_in _ (by omega)]; omega) | exact IntWalk.i64_in _ (by omega) | exact or_u32 c y hc (by omega) | exact or_u32m c y 16777216 hc (by omega))
        refine wpAnyIn_ready (rs := [9]) (by kernel_rfl) (by simp) ?_
        refine AllReadyIn.cons rfl (fun K hK => ?_) AllReadyIn.nil
        go_simp
        refine hK _ _ ?_
        clear hK K
        refine wpAnyIn_done (by kernel_rfl) ?_ _
        exact load_end (act := { tmps := #[], defers := [] }) HW0.out hHS.out Hg0.out Hg3.out rfl (by omega) (by omega) (by omega) (by omega)
  case done =>
    rintro D xs W hD rfl ⟨g0, _, g3⟩ hK
    rw [wordP_all] at g0
    have cw : W.cell? ⟨w1.heap.size, 0, none⟩ = some (.int .u32 (word4 bs i : Int)) := g0.cell rfl
    clear g0
    gi_wp2
    go_wp2
    refine ⟨by simp, .inl ⟨_, _, rfl, run_takeDeferred hK, ?_⟩⟩
    exact ⟨_, results_tmp2 rfl _ _ _, rfl, g3.trans (belowK_b (w := W0) (by have := HSZ.out; omega) _ D _ _ hD hK rfl rfl)⟩
  case stop =>
    rintro D c pre W _ _ h _
    exact h.elim
end Go.Proofs.YtchaojdjgbeepaaDoor
