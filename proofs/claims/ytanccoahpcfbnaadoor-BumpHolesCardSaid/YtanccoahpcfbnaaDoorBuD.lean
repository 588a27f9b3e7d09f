/-
  bump: next, Next.
-/
import Derived.Test.YtanccoahpcfbnaaDoorBuC
namespace Go.Proofs.YtanccoahpcfbnaaDoor
open Go.RowKit Go.Lib Go.Shelf Ad
attribute [local go_sem] Oper.semAt_some
set_option linter.unusedSimpArgs false

/-- Only block g may have turned. -/
def Upd (g : Nat) (w w' : World) : Prop := w.grownBy w' (some g)
theorem Upd.refl (g : Nat) (w : World) : Upd g w w := World.grownBy.refl _ _
theorem Upd.of_below {g : Nat} {w w' : World} (h : Below w.heap.size w w') : Upd g w w' := ⟨h.os, h.tape, h.output, h.size, fun k hk _ => h.block k hk⟩
theorem Upd.trans {g : Nat} {a b c : World} (h : Upd g a b) (k : Upd g b c) : Upd g a c := ⟨k.os.trans h.os, k.tape.trans h.tape, k.output.trans h.output, Nat.le_trans h.size k.size, fun i hi hn => (k.block i (Nat.lt_of_lt_of_le hi h.size) hn).trans (h.block i hi hn)⟩
theorem Upd.below {g B : Nat} {a b c : World} (h : Below B a b) (k : Upd g b c) (hB : B ≤ b.heap.size) (hg : B ≤ g) : Below B a c := h.grown k hB (fun j e => by cases e; exact hg)
theorem Upd.blk {g B : Nat} {w w' : World} {cs : Array Value} {t : TypeId} (k : Upd g w w') (h : Blk w B cs t) (hn : B ≠ g) : Blk w' B cs t := h.grown k (fun e => hn (by simpa using e))
theorem Upd.set {g i : Nat} {w w' : World} {v : Value} (h : Upd g w w') : Upd g w (w'.setCell ⟨g, i, none⟩ v) := h.trans ⟨rfl, rfl, rfl, by simp [World.setCell], fun k _ hk => Below.heap_setCell _ _ _ _ (fun e => hk (by simp [e]))⟩
theorem Upd.oset {g B i : Nat} {w w' : World} {v : Value} (h : Upd g w w') (hB : w.heap.size ≤ B) : Upd g w (w'.setCell ⟨B, i, none⟩ v) := ⟨h.os, h.tape, h.output, by simpa [World.setCell] using h.size, fun k hk hn => (Below.heap_setCell _ _ _ _ (by intro e; simp at e; omega)).trans (h.block k hk hn)⟩
theorem Upd.al {g : Nat} {w w' : World} (h : Upd g w w') (o : Obj) : Upd g w (w'.alloc o) := h.trans (Upd.of_below ((Below.refl _ _).alloc (Nat.le_refl _) o))
theorem Upd.dr {g : Nat} {w w' : World} (h : Upd g w w') : Upd g w w'.drew := ⟨h.os, h.tape, h.output, h.size, h.block⟩

/-- The line behind a cursor's room. -/
def lineC (B L : Int) : Int := (L - 4096 * B + 127) / 128
def nextC (F : Int → Option (Nat × Nat)) (c : Cu) : Option Cu := if inBk c.1 c.2.1 c.2.2 then openC c.1 (F (lineC c.1 c.2.2)) else none
/-- A taker's cells. -/
def tkA (c : Cu) (v : Value) : Array Value := #[.int .i64 c.1, .int .i64 c.2.1, .int .i64 c.2.2, v]
def TkPost (w : World) (T : Nat) (v : Value) (c : Cu) (o : Option Cu) (e : Ending) (w' : World) : Prop := e = .returned (curV o) ∧ Blk w' T (tkA (o.getD c) v) 56 ∧ Upd T w w'
theorem cell_so {w : World} {p : Addr} {v : Value} {B k : Nat} {x : Value} (h : w.cell? p = some v) (hne : p.block ≠ B) : (w.setCell ⟨B, k, none⟩ x).cell? p = some v := (World.cell?_of_block (Below.heap_setCell w ⟨B, k, none⟩ x p.block hne)).trans h
theorem inBlock_t (T : Nat) (B A L : Int) (w : World) (c0 : w.cell? ⟨T, 0, none⟩ = some (.int .i64 B)) (c1 : w.cell? ⟨T, 1, none⟩ = some (.int .i64 A)) (c2 : w.cell? ⟨T, 2, none⟩ = some (.int .i64 L)) (h : inBk B A L) :
    Calls Tryd.prog 34 #[.pointer (some ⟨T, 0, none⟩)] w fun e w' => e = .returned (.bool true) ∧ Below w.heap.size w w' := by
  have := inBlock_any T B A L w c0 c1 c2
  rwa [decide_eq_true h] at this
theorem inBlock_f (T : Nat) (B A L : Int) (w : World) (c0 : w.cell? ⟨T, 0, none⟩ = some (.int .i64 B)) (c1 : w.cell? ⟨T, 1, none⟩ = some (.int .i64 A)) (c2 : w.cell? ⟨T, 2, none⟩ = some (.int .i64 L)) (h : ¬ inBk B A L) :
    Calls Tryd.prog 34 #[.pointer (some ⟨T, 0, none⟩)] w fun e w' => e = .returned (.bool false) ∧ Below w.heap.size w w' := by
  have := inBlock_any T B A L w c0 c1 c2
  rwa [decide_eq_false h] at this
set_option maxRecDepth 100000 in
set_option maxHeartbeats 1000000 in
theorem next_out (T : Nat) (p : Option Addr) (n cap : Nat) (B A L : Int) (w : World) (hT : Blk w T #[.int .i64 B, .int .i64 A, .int .i64 L, .slice p n cap] 56) (h : ¬ inBk B A L) :
    Calls Tryd.prog 44 #[.pointer (some ⟨T, 0, none⟩)] w (TkPost w T (.slice p n cap) (B, A, L) none) := by
  obtain ⟨b0, hB, hs⟩ := blk1 w #[.int .i64 0, .int .i64 0, .int .i64 0] 23
  have hTl := hT.lt
  have bT := hT.alloc (.cells #[.int .i64 0, .int .i64 0, .int .i64 0] 23)
  have c0 : (w.alloc (.cells #[.int .i64 0, .int .i64 0, .int .i64 0] 23)).cell? ⟨T, 0, none⟩ = some (.int .i64 B) := bT.cell rfl
  have c1 : (w.alloc (.cells #[.int .i64 0, .int .i64 0, .int .i64 0] 23)).cell? ⟨T, 1, none⟩ = some (.int .i64 A) := bT.cell rfl
  have c2 : (w.alloc (.cells #[.int .i64 0, .int .i64 0, .int .i64 0] 23)).cell? ⟨T, 2, none⟩ = some (.int .i64 L) := bT.cell rfl
  have HI := Lib.hid (inBlock_f T B A L _ c0 c1 c2 h)
  have B0 := Lib.hid b0
  have BT0 := Lib.hid bT
  have HB := Lib.hid hB
  clear h b0 hB hs bT c0 c1 c2 hT
  go_enter Tryd.func44, Tryd.ntmps44
  go_wp2_with fail
  ((with_reducible refine HI.out.mono ?_))
  rintro e w1 ⟨rfl, hb⟩
  have bb := B0.out.below' hb
  have p0 : w1.cell? ⟨w.heap.size, 0, none⟩ = some (.int .i64 0) := bb.cell rfl
  have q0 := bb.frozen 0
  have p1 : w1.cell? ⟨w.heap.size, 1, none⟩ = some (.int .i64 0) := bb.cell rfl
  have q1 := bb.frozen 1
  have p2 : w1.cell? ⟨w.heap.size, 2, none⟩ = some (.int .i64 0) := bb.cell rfl
  have q2 := bb.frozen 2
  have hlt := bb.lt
  have BT := Lib.hid (BT0.out.below' hb)
  have HU := Lib.hid (Upd.of_below (g := T) (bstep HB.out hb))
  clear hb bb
  go_wp2
  refine bodyPost_ret (v := .tuple #[.agg #[.int .i64 0, .int .i64 0, .int .i64 0], .bool false]) (by simp [results, Tryd.results44, go_sem, p0, p1, p2, hlt]) rfl ⟨rfl, ?_, ?_⟩
  · show Blk _ T #[.int .i64 B, .int .i64 A, .int .i64 L, .slice p n cap] 56
    repeat (with_reducible first | exact BT.out | refine Blk.alloc ?_ _ | refine Blk.other ?_ (by omega) _ _ | refine Blk.drew ?_)
  · repeat (with_reducible first | exact HU.out | refine Upd.al ?_ _ | refine Upd.oset ?_ (by omega) | refine Upd.dr ?_)
set_option maxRecDepth 100000 in
set_option maxHeartbeats 1000000 in
theorem next_none (T : Nat) (p : Option Addr) (n cap : Nat) (B A L : Int) (w : World) (F : Int → Option (Nat × Nat)) (hN : NxAt w (.slice p n cap) F) (aA aS aR : Addr) (hV : AV w aA aS aR) (hT : Blk w T #[.int .i64 B, .int .i64 A, .int .i64 L, .slice p n cap] 56) (h : inBk B A L) (hf : F (lineC B L) = none) :
    Calls Tryd.prog 44 #[.pointer (some ⟨T, 0, none⟩)] w (TkPost w T (.slice p n cap) (B, A, L) none) := by
  obtain ⟨b0, hB, hs⟩ := blk1 w #[.int .i64 0, .int .i64 0, .int .i64 0] 23
  have hTl := hT.lt
  have bT := hT.alloc (.cells #[.int .i64 0, .int .i64 0, .int .i64 0] 23)
  have c0 : (w.alloc (.cells #[.int .i64 0, .int .i64 0, .int .i64 0] 23)).cell? ⟨T, 0, none⟩ = some (.int .i64 B) := bT.cell rfl
  have c1 : (w.alloc (.cells #[.int .i64 0, .int .i64 0, .int .i64 0] 23)).cell? ⟨T, 1, none⟩ = some (.int .i64 A) := bT.cell rfl
  have c2 : (w.alloc (.cells #[.int .i64 0, .int .i64 0, .int .i64 0] 23)).cell? ⟨T, 2, none⟩ = some (.int .i64 L) := bT.cell rfl
  have HI := Lib.hid (inBlock_t T B A L _ c0 c1 c2 h)
  obtain ⟨h0, h1, _, _, h4, h5, h6⟩ := h
  have HN := Lib.hid hN
  have HV := Lib.hid hV
  have HF := Lib.hid hf
  have HO := Lib.hid (fun (W : World) (l : Int) (hW : Below w.heap.size w W) (hl : l = lineC B L) => open_none (.slice p n cap) B l W F (HN.out.below hW) aA aS aR (HV.out.below hW) ⟨h0, h1⟩ (by rw [hl]; exact HF.out))
  have B0 := Lib.hid b0
  have BT0 := Lib.hid bT
  have HB := Lib.hid hB
  have e1 : IntKind.i64.wrap (B * 4096) = B * 4096 := IntWalk.i64_in _ (by omega)
  have e2 : IntKind.i64.wrap (L - B * 4096) = L - B * 4096 := IntWalk.i64_in _ (by omega)
  clear b0 hB hs bT c0 c1 c2 hT hN hV hf
  go_enter Tryd.func44, Tryd.ntmps44
  go_wp2_with fail
  ((with_reducible refine HI.out.mono ?_))
  rintro e w1 ⟨rfl, hb⟩
  have bT := BT0.out.below' hb
  have c0 : w1.cell? ⟨T, 0, none⟩ = some (.int .i64 B) := bT.cell rfl
  have c1 : w1.cell? ⟨T, 1, none⟩ = some (.int .i64 A) := bT.cell rfl
  have c2 : w1.cell? ⟨T, 2, none⟩ = some (.int .i64 L) := bT.cell rfl
  have c3 : w1.cell? ⟨T, 3, none⟩ = some (.slice p n cap) := bT.cell rfl
  have B1 := Lib.hid (B0.out.below' hb)
  have HB1 := Lib.hid (bstep HB.out hb)
  have BT1 := Lib.hid bT
  clear hb bT B0 BT0 HB HI
  go_wp2
  go_quiet (fail)
  go_wp2
  generalize hu : L - B * 4096 = u
  have hu1 : 0 ≤ u := by omega
  have hu2 : u ≤ 4096 := by omega
  have HLn := Lib.hid (show (u + 128 - 1) / 128 = lineC B L by unfold lineC; rw [← hu]; congr 1; omega)
  have HLt := Lib.hid (show (u + 128 - 1).tdiv 128 = lineC B L by rw [Int.tdiv_eq_ediv_of_nonneg (by omega)]; exact HLn.out)
  have e3 : IntKind.i64.wrap (u + 128) = u + 128 := IntWalk.i64_in _ (by omega)
  have e4 : IntKind.i64.wrap (u + 128 - 1) = u + 128 - 1 := IntWalk.i64_in _ (by omega)
  have e5 : IntKind.i64.wrap ((u + 128 - 1).tdiv 128) = (u + 128 - 1).tdiv 128 := IntWalk.i64_in _ (by rw [Int.tdiv_eq_ediv_of_nonneg (by omega)]; omega)
  clear hu e1 e2
  have d0 : (w1.drewN nq).cell? ⟨T, 0, none⟩ = some (.int .i64 B) := c0
  have d3 : (w1.drewN nq).cell? ⟨T, 3, none⟩ = some (.slice p n cap) := c3
  have B2 : Hid (Blk (w1.drewN nq) w.heap.size #[.int .i64 0, .int .i64 0, .int .i64 0] 23) := Lib.hid B1.out
  have BT2 : Hid (Blk (w1.drewN nq) T #[.int .i64 B, .int .i64 A, .int .i64 L, .slice p n cap] 56) := Lib.hid BT1.out
  have HB2 := Lib.hid (Ad.below_drewN HB1.out nq)
  generalize w1.drewN nq = w2 at d0 d3 B2 BT2 HB2 ⊢
  have hD1 := B2.out.lt
  have hD2 := BT2.out.lt
  clear c0 c1 c2 c3 B1 BT1 HB1
  go_region_held3 (fun w' => w'.cell? ⟨T, 0, none⟩ = some (.int .i64 B) ∧ w'.cell? ⟨T, 3, none⟩ = some (.slice p n cap))
    (with_reducible first | exact ⟨d0, d3⟩ | exact ⟨cell_dr d0, cell_dr d3⟩ | exact ⟨cell_dr (cell_al _ d0), cell_dr (cell_al _ d3)⟩ | exact ⟨cell_al _ (cell_dr d0), cell_al _ (cell_dr d3)⟩ | exact ⟨f0, f3⟩ | exact ⟨cell_al _ f0, cell_al _ f3⟩ | exact ⟨cell_so (cell_so (cell_so f0 hTD) hTD) hTD, cell_so (cell_so (cell_so f3 hTD) hTD) hTD⟩)
    (first
      | (go_at_call 20; ((with_reducible refine (HO.out w2.drew _ HB2.out.drew ?_).mono ?_)); exact HLt.out; rintro e w3 ⟨rfl, hb⟩; have f0 := cell_below (cell_dr d0) hb; have f3 := cell_below (cell_dr d3) hb; have bb := B2.out.drew.below' hb; have bT := BT2.out.drew.below' hb; have hTD : T ≠ w2.heap.size := Nat.ne_of_lt hD2; have HB3 := Lib.hid (bstep HB2.out.drew hb); clear hb)
      | (go_at_call 20; ((with_reducible refine (HO.out _ _ (bel_dr (bel_al HB2.out _)) ?_).mono ?_)); exact HLt.out; rintro e w3 ⟨rfl, hb⟩; have f0 := cell_below (cell_dr (cell_al _ d0)) hb; have f3 := cell_below (cell_dr (cell_al _ d3)) hb; have bb := (B2.out.alloc _).drew.below' hb; have bT := (BT2.out.alloc _).drew.below' hb; have bD := (Blk.new w2 #[.int .i64 0, .int .i64 0, .int .i64 0] 23).drew.below' hb; have s0 : w3.cell? ⟨w2.heap.size, 0, none⟩ = some (.int .i64 0) := bD.cell rfl; have s1 : w3.cell? ⟨w2.heap.size, 1, none⟩ = some (.int .i64 0) := bD.cell rfl; have s2 : w3.cell? ⟨w2.heap.size, 2, none⟩ = some (.int .i64 0) := bD.cell rfl; have z0 := bD.frozen 0; have z1 := bD.frozen 1; have z2 := bD.frozen 2; have hDl := bD.lt; have hTD : T ≠ w2.heap.size := Nat.ne_of_lt hD2; have HB3 := Lib.hid (bstep (bel_dr (bel_al HB2.out _)) hb); clear hb bD))
  all_goals
    have p0 : w3.cell? ⟨w.heap.size, 0, none⟩ = some (.int .i64 0) := bb.cell rfl
    have q0 := bb.frozen 0
    have p1 : w3.cell? ⟨w.heap.size, 1, none⟩ = some (.int .i64 0) := bb.cell rfl
    have q1 := bb.frozen 1
    have p2 : w3.cell? ⟨w.heap.size, 2, none⟩ = some (.int .i64 0) := bb.cell rfl
    have q2 := bb.frozen 2
    have hlt := bb.lt
    have hTl3 := bT.lt
    have BT := Lib.hid bT
    have HU := Lib.hid (Upd.of_below (g := T) HB3.out)
    clear bb bT HB3 f0 f3 d0 d3
    go_wp2
    refine bodyPost_ret (v := .tuple #[.agg #[.int .i64 0, .int .i64 0, .int .i64 0], .bool false]) (by simp [results, Tryd.results44, go_sem, p0, p1, p2, hlt]) rfl ⟨rfl, ?_, ?_⟩
    · show Blk _ T #[.int .i64 B, .int .i64 A, .int .i64 L, .slice p n cap] 56
      repeat (with_reducible first | exact BT.out | refine Blk.alloc ?_ _ | refine Blk.other ?_ (by omega) _ _ | refine Blk.drew ?_)
    · repeat (with_reducible first | exact HU.out | refine Upd.al ?_ _ | refine Upd.oset ?_ (by omega) | refine Upd.dr ?_)
set_option maxRecDepth 100000 in
set_option maxHeartbeats 1000000 in
theorem next_some (T : Nat) (p : Option Addr) (n cap : Nat) (B A L : Int) (w : World) (F : Int → Option (Nat × Nat)) (hN : NxAt w (.slice p n cap) F) (aA aS aR : Addr) (hV : AV w aA aS aR) (hT : Blk w T #[.int .i64 B, .int .i64 A, .int .i64 L, .slice p n cap] 56) (h : inBk B A L) (x : Nat × Nat) (hf : F (lineC B L) = some x) (hx : x.1 < x.2 ∧ x.2 ≤ 32) :
    Calls Tryd.prog 44 #[.pointer (some ⟨T, 0, none⟩)] w (TkPost w T (.slice p n cap) (B, A, L) (some (mkC B x))) := by
  obtain ⟨b0, hB, hs⟩ := blk1 w #[.int .i64 0, .int .i64 0, .int .i64 0] 23
  have hTl := hT.lt
  have bT := hT.alloc (.cells #[.int .i64 0, .int .i64 0, .int .i64 0] 23)
  have c0 : (w.alloc (.cells #[.int .i64 0, .int .i64 0, .int .i64 0] 23)).cell? ⟨T, 0, none⟩ = some (.int .i64 B) := bT.cell rfl
  have c1 : (w.alloc (.cells #[.int .i64 0, .int .i64 0, .int .i64 0] 23)).cell? ⟨T, 1, none⟩ = some (.int .i64 A) := bT.cell rfl
  have c2 : (w.alloc (.cells #[.int .i64 0, .int .i64 0, .int .i64 0] 23)).cell? ⟨T, 2, none⟩ = some (.int .i64 L) := bT.cell rfl
  have HI := Lib.hid (inBlock_t T B A L _ c0 c1 c2 h)
  obtain ⟨h0, h1, _, _, h4, h5, h6⟩ := h
  have HN := Lib.hid hN
  have HV := Lib.hid hV
  have HF := Lib.hid hf
  have HO := Lib.hid (fun (W : World) (l : Int) (hW : Below w.heap.size w W) (hl : l = lineC B L) => open_some (.slice p n cap) B l x W F (HN.out.below hW) aA aS aR (HV.out.below hW) ⟨h0, h1⟩ (by rw [hl]; exact HF.out) hx)
  have B0 := Lib.hid b0
  have BT0 := Lib.hid bT
  have HB := Lib.hid hB
  have e1 : IntKind.i64.wrap (B * 4096) = B * 4096 := IntWalk.i64_in _ (by omega)
  have e2 : IntKind.i64.wrap (L - B * 4096) = L - B * 4096 := IntWalk.i64_in _ (by omega)
  clear b0 hB hs bT c0 c1 c2 hT hN hV hf
  go_enter Tryd.func44, Tryd.ntmps44
  go_wp2_with fail
  ((with_reducible refine HI.out.mono ?_))
  rintro e w1 ⟨rfl, hb⟩
  have bT := BT0.out.below' hb
  have c0 : w1.cell? ⟨T, 0, none⟩ = some (.int .i64 B) := bT.cell rfl
  have c1 : w1.cell? ⟨T, 1, none⟩ = some (.int .i64 A) := bT.cell rfl
  have c2 : w1.cell? ⟨T, 2, none⟩ = some (.int .i64 L) := bT.cell rfl
  have c3 : w1.cell? ⟨T, 3, none⟩ = some (.slice p n cap) := bT.cell rfl
  have B1 := Lib.hid (B0.out.below' hb)
  have HB1 := Lib.hid (bstep HB.out hb)
  have BT1 := Lib.hid bT
  clear hb bT B0 BT0 HB HI
  go_wp2
  go_quiet (fail)
  go_wp2
  generalize hu : L - B * 4096 = u
  have hu1 : 0 ≤ u := by omega
  have hu2 : u ≤ 4096 := by omega
  have HLn := Lib.hid (show (u + 128 - 1) / 128 = lineC B L by unfold lineC; rw [← hu]; congr 1; omega)
  have HLt := Lib.hid (show (u + 128 - 1).tdiv 128 = lineC B L by rw [Int.tdiv_eq_ediv_of_nonneg (by omega)]; exact HLn.out)
  have e3 : IntKind.i64.wrap (u + 128) = u + 128 := IntWalk.i64_in _ (by omega)
  have e4 : IntKind.i64.wrap (u + 128 - 1) = u + 128 - 1 := IntWalk.i64_in _ (by omega)
  have e5 : IntKind.i64.wrap ((u + 128 - 1).tdiv 128) = (u + 128 - 1).tdiv 128 := IntWalk.i64_in _ (by rw [Int.tdiv_eq_ediv_of_nonneg (by omega)]; omega)
  clear hu e1 e2
  have d0 : (w1.drewN nq).cell? ⟨T, 0, none⟩ = some (.int .i64 B) := c0
  have d3 : (w1.drewN nq).cell? ⟨T, 3, none⟩ = some (.slice p n cap) := c3
  have B2 : Hid (Blk (w1.drewN nq) w.heap.size #[.int .i64 0, .int .i64 0, .int .i64 0] 23) := Lib.hid B1.out
  have BT2 : Hid (Blk (w1.drewN nq) T #[.int .i64 B, .int .i64 A, .int .i64 L, .slice p n cap] 56) := Lib.hid BT1.out
  have HB2 := Lib.hid (Ad.below_drewN HB1.out nq)
  generalize w1.drewN nq = w2 at d0 d3 B2 BT2 HB2 ⊢
  have hD1 := B2.out.lt
  have hD2 := BT2.out.lt
  clear c0 c1 c2 c3 B1 BT1 HB1
  go_region_held3 (fun w' => w'.cell? ⟨T, 0, none⟩ = some (.int .i64 B) ∧ w'.cell? ⟨T, 3, none⟩ = some (.slice p n cap))
    (with_reducible first | exact ⟨d0, d3⟩ | exact ⟨cell_dr d0, cell_dr d3⟩ | exact ⟨cell_dr (cell_al _ d0), cell_dr (cell_al _ d3)⟩ | exact ⟨cell_al _ (cell_dr d0), cell_al _ (cell_dr d3)⟩ | exact ⟨f0, f3⟩ | exact ⟨cell_al _ f0, cell_al _ f3⟩ | exact ⟨cell_so (cell_so (cell_so f0 hTD) hTD) hTD, cell_so (cell_so (cell_so f3 hTD) hTD) hTD⟩)
    (first
      | (go_at_call 20; ((with_reducible refine (HO.out w2.drew _ HB2.out.drew ?_).mono ?_)); exact HLt.out; rintro e w3 ⟨rfl, hb⟩; have f0 := cell_below (cell_dr d0) hb; have f3 := cell_below (cell_dr d3) hb; have bb := B2.out.drew.below' hb; have bT := BT2.out.drew.below' hb; have hTD : T ≠ w2.heap.size := Nat.ne_of_lt hD2; have HB3 := Lib.hid (bstep HB2.out.drew hb); clear hb)
      | (go_at_call 20; ((with_reducible refine (HO.out _ _ (bel_dr (bel_al HB2.out _)) ?_).mono ?_)); exact HLt.out; rintro e w3 ⟨rfl, hb⟩; have f0 := cell_below (cell_dr (cell_al _ d0)) hb; have f3 := cell_below (cell_dr (cell_al _ d3)) hb; have bb := (B2.out.alloc _).drew.below' hb; have bT := (BT2.out.alloc _).drew.below' hb; have bD := (Blk.new w2 #[.int .i64 0, .int .i64 0, .int .i64 0] 23).drew.below' hb; have s0 : w3.cell? ⟨w2.heap.size, 0, none⟩ = some (.int .i64 0) := bD.cell rfl; have s1 : w3.cell? ⟨w2.heap.size, 1, none⟩ = some (.int .i64 0) := bD.cell rfl; have s2 : w3.cell? ⟨w2.heap.size, 2, none⟩ = some (.int .i64 0) := bD.cell rfl; have z0 := bD.frozen 0; have z1 := bD.frozen 1; have z2 := bD.frozen 2; have hDl := bD.lt; have hTD : T ≠ w2.heap.size := Nat.ne_of_lt hD2; have HB3 := Lib.hid (bstep (bel_dr (bel_al HB2.out _)) hb); clear hb bD))
  all_goals
    have p0 : w3.cell? ⟨w.heap.size, 0, none⟩ = some (.int .i64 0) := bb.cell rfl
    have q0 := bb.frozen 0
    have p1 : w3.cell? ⟨w.heap.size, 1, none⟩ = some (.int .i64 0) := bb.cell rfl
    have q1 := bb.frozen 1
    have p2 : w3.cell? ⟨w.heap.size, 2, none⟩ = some (.int .i64 0) := bb.cell rfl
    have q2 := bb.frozen 2
    have hlt := bb.lt
    have hTl3 := bT.lt
    have g0 : w3.cell? ⟨T, 0, none⟩ = some (.int .i64 B) := bT.cell rfl
    have g1 : w3.cell? ⟨T, 1, none⟩ = some (.int .i64 A) := bT.cell rfl
    have g2 : w3.cell? ⟨T, 2, none⟩ = some (.int .i64 L) := bT.cell rfl
    have y0 := bT.frozen 0
    have y1 := bT.frozen 1
    have y2 := bT.frozen 2
    have BT := Lib.hid bT
    have HU := Lib.hid (Upd.of_below (g := T) HB3.out)
    clear bb bT HB3 f0 f3 d0 d3
    go_wp2
    refine bodyPost_ret (v := .tuple #[.agg #[.int .i64 B, .int .i64 (4096 * B + (x.1 : Int) * 128), .int .i64 (4096 * B + (x.2 : Int) * 128)], .bool true]) (by simp [results, Tryd.results44, go_sem, p0, p1, p2, hlt]) rfl ⟨rfl, ?_, ?_⟩
    · have eX : (tkA ((some (mkC B x)).getD (B, A, L)) (.slice p n cap)) = (((#[.int .i64 B, .int .i64 A, .int .i64 L, .slice p n cap] : Array Value).setIfInBounds 0 (.int .i64 B)).setIfInBounds 1 (.int .i64 (4096 * B + (x.1 : Int) * 128))).setIfInBounds 2 (.int .i64 (4096 * B + (x.2 : Int) * 128)) := rfl
      rw [eX]
      repeat (with_reducible first | exact BT.out | refine Blk.alloc ?_ _ | refine Blk.set ?_ _ _ | refine Blk.other ?_ (by omega) _ _ | refine Blk.drew ?_)
    · repeat (with_reducible first | exact HU.out | refine Upd.al ?_ _ | refine Upd.set ?_ | refine Upd.oset ?_ (by omega) | refine Upd.dr ?_)
/-- next, on whatever list of which hole.Next is known. -/
theorem tnext_any (T : Nat) (p : Option Addr) (n cap : Nat) (c : Cu) (w : World) (F : Int → Option (Nat × Nat)) (hN : NxAt w (.slice p n cap) F) (hF : InL F) (aA aS aR : Addr) (hV : AV w aA aS aR) (hT : Blk w T (tkA c (.slice p n cap)) 56) :
    Calls Tryd.prog 44 #[.pointer (some ⟨T, 0, none⟩)] w (TkPost w T (.slice p n cap) c (nextC F c)) := by
  obtain ⟨B, A, L⟩ := c
  by_cases h : inBk B A L
  · cases hf : F (lineC B L) with
    | none =>
      rw [show nextC F (B, A, L) = none by simp [nextC, h, openC, hf]]
      exact next_none T p n cap B A L w F hN aA aS aR hV hT h hf
    | some x =>
      rw [show nextC F (B, A, L) = some (mkC B x) by have h1 := h.1; have h2 := h.2.1; simp [nextC, h, openC, hf, h1, h2]]
      exact next_some T p n cap B A L w F hN aA aS aR hV hT h x hf (hF _ x hf)
  · rw [show nextC F (B, A, L) = none by simp [nextC, h]]
    exact next_out T p n cap B A L w hT h
set_option maxRecDepth 100000 in
set_option maxHeartbeats 1000000 in
theorem bnext_some (p : Option Addr) (n cap : Nat) (B A L B' A' L' : Int) (w : World) (F : Int → Option (Nat × Nat)) (hN : NxAt w (.slice p n cap) F) (hF : InL F) (aA aS aR : Addr) (hV : AV w aA aS aR) (h : nextC F (B, A, L) = some (B', A', L')) :
    Calls Tryd.prog 24 #[.slice p n cap, .agg #[.int .i64 B, .int .i64 A, .int .i64 L]] w fun e w' => e = .returned (.tuple #[.agg #[.int .i64 B', .int .i64 A', .int .i64 L'], .bool true]) ∧ Below w.heap.size w w' := by
  obtain ⟨b0, b1, b2, hB, hs⟩ := blk3 w #[.int .i64 B, .int .i64 A, .int .i64 L] #[.int .i64 0, .int .i64 0, .int .i64 0] #[.int .i64 B, .int .i64 A, .int .i64 L, .slice p n cap] 23 23 56
  have hC := tnext_any (w.heap.size + 1 + 1) p n cap (B, A, L) _ F (hN.below hB) hF aA aS aR (hV.below hB) b2
  rw [h] at hC
  have HC := Lib.hid hC
  have B1 := Lib.hid b1
  have HB := Lib.hid hB
  clear b0 b1 b2 hB hs hC hN hV h
  go_enter Tryd.func24, Tryd.ntmps24
  go_wp2_with fail
  ((with_reducible refine HC.out.mono ?_))
  rintro e w1 ⟨rfl, _, hU⟩
  have bb := hU.blk B1.out (by omega)
  have HE := Lib.hid (Upd.below HB.out hU HB.out.size (by omega))
  simp only [curV, curA, Option.isSome_some]
  have p0 : w1.cell? ⟨w.heap.size + 1, 0, none⟩ = some (.int .i64 0) := bb.cell rfl
  have q0 := bb.frozen 0
  have p1 : w1.cell? ⟨w.heap.size + 1, 1, none⟩ = some (.int .i64 0) := bb.cell rfl
  have q1 := bb.frozen 1
  have p2 : w1.cell? ⟨w.heap.size + 1, 2, none⟩ = some (.int .i64 0) := bb.cell rfl
  have q2 := bb.frozen 2
  have hlt := bb.lt
  clear bb hU HC
  go_wp2
  refine bodyPost_ret (v := .tuple #[.agg #[.int .i64 B', .int .i64 A', .int .i64 L'], .bool true]) (by simp [results, Tryd.results24, go_sem, p0, p1, p2, hlt]) rfl ⟨rfl, ?_⟩
  repeat (with_reducible first | exact HE.out | refine bel_al ?_ _ | refine bel_set ?_ (by omega) | refine bel_dr ?_)
set_option maxRecDepth 100000 in
set_option maxHeartbeats 1000000 in
theorem bnext_none (p : Option Addr) (n cap : Nat) (B A L : Int) (w : World) (F : Int → Option (Nat × Nat)) (hN : NxAt w (.slice p n cap) F) (hF : InL F) (aA aS aR : Addr) (hV : AV w aA aS aR) (h : nextC F (B, A, L) = none) :
    Calls Tryd.prog 24 #[.slice p n cap, .agg #[.int .i64 B, .int .i64 A, .int .i64 L]] w fun e w' => e = .returned (.tuple #[.agg #[.int .i64 0, .int .i64 0, .int .i64 0], .bool false]) ∧ Below w.heap.size w w' := by
  obtain ⟨b0, b1, b2, hB, hs⟩ := blk3 w #[.int .i64 B, .int .i64 A, .int .i64 L] #[.int .i64 0, .int .i64 0, .int .i64 0] #[.int .i64 B, .int .i64 A, .int .i64 L, .slice p n cap] 23 23 56
  have hC := tnext_any (w.heap.size + 1 + 1) p n cap (B, A, L) _ F (hN.below hB) hF aA aS aR (hV.below hB) b2
  rw [h] at hC
  have HC := Lib.hid hC
  have B1 := Lib.hid b1
  have HB := Lib.hid hB
  clear b0 b1 b2 hB hs hC hN hV h
  go_enter Tryd.func24, Tryd.ntmps24
  go_wp2_with fail
  ((with_reducible refine HC.out.mono ?_))
  rintro e w1 ⟨rfl, _, hU⟩
  have bb := hU.blk B1.out (by omega)
  have HE := Lib.hid (Upd.below HB.out hU HB.out.size (by omega))
  simp only [curV, curA, Option.isSome_none]
  have p0 : w1.cell? ⟨w.heap.size + 1, 0, none⟩ = some (.int .i64 0) := bb.cell rfl
  have q0 := bb.frozen 0
  have p1 : w1.cell? ⟨w.heap.size + 1, 1, none⟩ = some (.int .i64 0) := bb.cell rfl
  have q1 := bb.frozen 1
  have p2 : w1.cell? ⟨w.heap.size + 1, 2, none⟩ = some (.int .i64 0) := bb.cell rfl
  have q2 := bb.frozen 2
  have hlt := bb.lt
  clear bb hU HC
  go_wp2
  refine bodyPost_ret (v := .tuple #[.agg #[.int .i64 0, .int .i64 0, .int .i64 0], .bool false]) (by simp [results, Tryd.results24, go_sem, p0, p1, p2, hlt]) rfl ⟨rfl, ?_⟩
  repeat (with_reducible first | exact HE.out | refine bel_al ?_ _ | refine bel_set ?_ (by omega) | refine bel_dr ?_)
theorem bnext_any (p : Option Addr) (n cap : Nat) (c : Cu) (w : World) (F : Int → Option (Nat × Nat)) (hN : NxAt w (.slice p n cap) F) (hF : InL F) (aA aS aR : Addr) (hV : AV w aA aS aR) :
    Calls Tryd.prog 24 #[.slice p n cap, .agg #[.int .i64 c.1, .int .i64 c.2.1, .int .i64 c.2.2]] w fun e w' => e = .returned (curV (nextC F c)) ∧ Below w.heap.size w w' := by
  obtain ⟨B, A, L⟩ := c
  cases h : nextC F (B, A, L) with
  | none => exact bnext_none p n cap B A L w F hN hF aA aS aR hV h
  | some d =>
    obtain ⟨B', A', L'⟩ := d
    exact bnext_some p n cap B A L B' A' L' w F hN hF aA aS aR hV h
end Go.Proofs.YtanccoahpcfbnaaDoor
