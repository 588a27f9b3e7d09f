/-
  bump.Open.
-/
import Derived.Test.YtanccoahpcfbnaaDoorBuA
import Derived.Test.YtanccoahpcfbnaaDoorHoleNx
namespace Go.Proofs.YtanccoahpcfbnaaDoor
open Go.RowKit Go.Lib Go.Shelf Ad
attribute [local go_sem] Oper.semAt_some
set_option linter.unusedSimpArgs false

theorem bel_al {w W : World} (h : Below w.heap.size w W) (o : Obj) : Below w.heap.size w (W.alloc o) := h.alloc h.size o
theorem bel_set {w W : World} {B k : Nat} {v : Value} (h : Below w.heap.size w W) (hB : w.heap.size ≤ B) : Below w.heap.size w (W.setCell ⟨B, k, none⟩ v) := h.setCell (p := ⟨B, k, none⟩) hB v
theorem bel_dr {w W : World} (h : Below w.heap.size w W) : Below w.heap.size w W.drew := h.drew
/-- A cursor's three numbers. -/
abbrev Cu := Int × Int × Int
def curA : Option Cu → Array Value
  | none => #[.int .i64 0, .int .i64 0, .int .i64 0]
  | some c => #[.int .i64 c.1, .int .i64 c.2.1, .int .i64 c.2.2]
def curV (o : Option Cu) : Value := .tuple #[.agg (curA o), .bool o.isSome]
/-- The cursor over a hole of a block. -/
def mkC (B : Int) (x : Nat × Nat) : Cu := (B, 4096 * B + (x.1 : Int) * 128, 4096 * B + (x.2 : Int) * 128)
def openC (B : Int) (r : Option (Nat × Nat)) : Option Cu := if 0 ≤ B ∧ B < 32 then r.map (mkC B) else none
/-- What hole.Next answers on a list, at every line, from this world on. -/
def NxAt (w : World) (v : Value) (F : Int → Option (Nat × Nat)) : Prop := ∀ W f, Below w.heap.size w W → Calls Tryd.prog 39 #[v, .int .i64 f] W fun e w' => e = .returned (firstV (F f)) ∧ Below W.heap.size W w'
theorem NxAt.below {w w' : World} {v : Value} {F : Int → Option (Nat × Nat)} (h : NxAt w v F) (hb : Below w.heap.size w w') : NxAt w' v F := fun W f hW => h W f (bstep hb hW)
/-- Holes lie in a block's lines. -/
def InL (F : Int → Option (Nat × Nat)) : Prop := ∀ f x, F f = some x → x.1 < x.2 ∧ x.2 ≤ 32
theorem NxAt.some {w : World} {v : Value} {F : Int → Option (Nat × Nat)} (h : NxAt w v F) {f : Int} {x : Nat × Nat} (hx : F f = some x) (W : World) (hW : Below w.heap.size w W) : Calls Tryd.prog 39 #[v, .int .i64 f] W fun e w' => e = .returned (.tuple #[.agg #[.int .i64 (x.1 : Int), .int .i64 (x.2 : Int)], .bool true]) ∧ Below W.heap.size W w' := by
  have := h W f hW
  rw [hx] at this
  exact this
theorem NxAt.none {w : World} {v : Value} {F : Int → Option (Nat × Nat)} (h : NxAt w v F) {f : Int} (hx : F f = none) (W : World) (hW : Below w.heap.size w W) : Calls Tryd.prog 39 #[v, .int .i64 f] W fun e w' => e = .returned (.tuple #[.agg #[.int .i64 0, .int .i64 0], .bool false]) ∧ Below W.heap.size W w' := by
  have := h W f hW
  rw [hx] at this
  exact this
theorem tab_nx {w : World} {b o cap : Nat} {z : Nat → Int} (hT : Tab w b o z) (hr : rightT z = true) : NxAt w (.slice (some ⟨b, o, none⟩) 32 cap) (fun f => (holesZ (keptZ z) (line0 f)).head?) := fun W f hW => next_yes b o cap z f W (hT.below hW) hr
theorem no_nx {w : World} {v : Value} (h : NoTab w v) : NxAt w v (fun _ => none) := fun W f hW => next_no v f W (h.below hW)
theorem tab_in (q : Nat → Bool) : InL (fun f => (holesZ q (line0 f)).head?) := fun f x hx => by
  dsimp only at hx
  cases hh : holesZ q (line0 f) with
  | nil => rw [hh] at hx; simp at hx
  | cons y rest =>
    rw [hh] at hx
    simp at hx
    subst hx
    have := holesZ_cons q 32 (line0 f) (by omega) y rest hh
    exact ⟨this.2.1, this.2.2.1⟩
theorem no_in : InL (fun _ => none) := fun _ _ h => by cases h

set_option maxRecDepth 100000 in
set_option maxHeartbeats 1000000 in
theorem open_bad (v : Value) (B f : Int) (w : World) (aA aS aR : Addr) (hV : AV w aA aS aR) (h : ¬ (0 ≤ B ∧ B < 32)) :
    Calls Tryd.prog 20 #[v, .int .i64 B, .int .i64 f] w fun e w' => e = .returned (.tuple #[.agg #[.int .i64 0, .int .i64 0, .int .i64 0], .bool false]) ∧ Below w.heap.size w w' := by
  obtain ⟨b0, hB, hs⟩ := blk1 w #[.int .i64 0, .int .i64 0, .int .i64 0] 23
  have HJ := Lib.hid (join_bad B 0 0 _ aA aS aR (hV.below hB) (fun k => h ⟨k.1, k.2.1⟩))
  have HB := Lib.hid hB
  have B0 := Lib.hid b0
  clear hV h b0 hB hs
  go_enter Tryd.func20, Tryd.ntmps20
  go_wp2_with fail
  ((with_reducible refine HJ.out.mono ?_))
  rintro e w1 ⟨rfl, hb⟩
  have bb := B0.out.below' hb
  have p0 : w1.cell? ⟨w.heap.size, 0, none⟩ = some (.int .i64 0) := bb.cell rfl
  have p1 : w1.cell? ⟨w.heap.size, 1, none⟩ = some (.int .i64 0) := bb.cell rfl
  have p2 : w1.cell? ⟨w.heap.size, 2, none⟩ = some (.int .i64 0) := bb.cell rfl
  have q0 := bb.frozen 0
  have q1 := bb.frozen 1
  have q2 := bb.frozen 2
  have HE := Lib.hid (bstep HB.out hb)
  clear hb bb HJ
  go_wp2
  refine bodyPost_ret (v := .tuple #[.agg #[.int .i64 0, .int .i64 0, .int .i64 0], .bool false]) (by simp [results, Tryd.results20, go_sem, p0, p1, p2]) rfl ⟨rfl, ?_⟩
  repeat (first | (with_reducible exact HE.out) | refine Below.setCell ?_ (by simp; try omega) _)
set_option maxRecDepth 100000 in
set_option maxHeartbeats 1000000 in
theorem open_none (v : Value) (B f : Int) (w : World) (F : Int → Option (Nat × Nat)) (hN : NxAt w v F) (aA aS aR : Addr) (hV : AV w aA aS aR) (h : 0 ≤ B ∧ B < 32) (hf : F f = none) :
    Calls Tryd.prog 20 #[v, .int .i64 B, .int .i64 f] w fun e w' => e = .returned (.tuple #[.agg #[.int .i64 0, .int .i64 0, .int .i64 0], .bool false]) ∧ Below w.heap.size w w' := by
  obtain ⟨b0, hB, hs⟩ := blk1 w #[.int .i64 0, .int .i64 0, .int .i64 0] 23
  have HJ := Lib.hid (join_ok B 0 0 _ aA aS aR (hV.below hB) ⟨h.1, h.2, by omega, by omega, by omega, by omega⟩)
  rw [show 4096 * B + 128 * 0 + 0 = 4096 * B by omega] at HJ
  have HN := Lib.hid (fun W hW => hN.none hf W hW)
  have HB := Lib.hid hB
  have B0 := Lib.hid b0
  clear hV h b0 hB hs hN hf
  go_enter Tryd.func20, Tryd.ntmps20
  go_wp2_with fail
  ((with_reducible refine HJ.out.mono ?_))
  rintro e w1 ⟨rfl, hb⟩
  replace B0 := Lib.hid (B0.out.below' hb)
  replace HB := Lib.hid (bstep HB.out hb)
  clear hb HJ
  go_wp2_with fail
  ((with_reducible refine (HN.out w1 HB.out).mono ?_))
  rintro e w2 ⟨rfl, hb⟩
  have bb := B0.out.below' hb
  have p0 : w2.cell? ⟨w.heap.size, 0, none⟩ = some (.int .i64 0) := bb.cell rfl
  have p1 : w2.cell? ⟨w.heap.size, 1, none⟩ = some (.int .i64 0) := bb.cell rfl
  have p2 : w2.cell? ⟨w.heap.size, 2, none⟩ = some (.int .i64 0) := bb.cell rfl
  have q0 := bb.frozen 0
  have q1 := bb.frozen 1
  have q2 := bb.frozen 2
  have hlt := bb.lt
  have HE := Lib.hid (bstep HB.out hb)
  clear hb bb
  go_wp2
  refine bodyPost_ret (v := .tuple #[.agg #[.int .i64 0, .int .i64 0, .int .i64 0], .bool false]) (by simp [results, Tryd.results20, go_sem, p0, p1, p2, hlt]) rfl ⟨rfl, ?_⟩
  repeat (first | (with_reducible exact HE.out) | refine bel_al ?_ _ | refine bel_set ?_ (by omega) | refine bel_dr ?_)
set_option maxRecDepth 100000 in
set_option maxHeartbeats 1000000 in
theorem open_some (v : Value) (B f : Int) (x : Nat × Nat) (w : World) (F : Int → Option (Nat × Nat)) (hN : NxAt w v F) (aA aS aR : Addr) (hV : AV w aA aS aR) (h : 0 ≤ B ∧ B < 32) (hf : F f = some x) (hx : x.1 < x.2 ∧ x.2 ≤ 32) :
    Calls Tryd.prog 20 #[v, .int .i64 B, .int .i64 f] w fun e w' => e = .returned (.tuple #[.agg #[.int .i64 B, .int .i64 (4096 * B + (x.1 : Int) * 128), .int .i64 (4096 * B + (x.2 : Int) * 128)], .bool true]) ∧ Below w.heap.size w w' := by
  obtain ⟨b0, hB, hs⟩ := blk1 w #[.int .i64 0, .int .i64 0, .int .i64 0] 23
  have HJ := Lib.hid (join_ok B 0 0 _ aA aS aR (hV.below hB) ⟨h.1, h.2, by omega, by omega, by omega, by omega⟩)
  rw [show 4096 * B + 128 * 0 + 0 = 4096 * B by omega] at HJ
  have HN := Lib.hid (fun W hW => hN.some hf W hW)
  have HB := Lib.hid hB
  have B0 := Lib.hid b0
  obtain ⟨h0, h1⟩ := h
  obtain ⟨x1, x2⟩ := x
  obtain ⟨h2, h3⟩ := hx
  simp only at h2 h3 HN ⊢
  have h4 : x1 ≤ 32 := by omega
  clear hV b0 hB hs hN hf
  go_enter Tryd.func20, Tryd.ntmps20
  go_wp2_with fail
  ((with_reducible refine HJ.out.mono ?_))
  rintro e w1 ⟨rfl, hb⟩
  replace B0 := Lib.hid (B0.out.below' hb)
  replace HB := Lib.hid (bstep HB.out hb)
  clear hb HJ
  go_wp2_with fail
  ((with_reducible refine (HN.out w1 HB.out).mono ?_))
  rintro e w2 ⟨rfl, hb⟩
  have bb := B0.out.below' hb
  have p0 : w2.cell? ⟨w.heap.size, 0, none⟩ = some (.int .i64 0) := bb.cell rfl
  have p1 : w2.cell? ⟨w.heap.size, 1, none⟩ = some (.int .i64 0) := bb.cell rfl
  have p2 : w2.cell? ⟨w.heap.size, 2, none⟩ = some (.int .i64 0) := bb.cell rfl
  have q0 := bb.frozen 0
  have q1 := bb.frozen 1
  have q2 := bb.frozen 2
  have hlt := bb.lt
  have HE := Lib.hid (bstep HB.out hb)
  clear hb bb
  go_wp2
  refine bodyPost_ret (v := .tuple #[.agg #[.int .i64 B, .int .i64 (4096 * B + (x1 : Int) * 128), .int .i64 (4096 * B + (x2 : Int) * 128)], .bool true]) (by simp [results, Tryd.results20, go_sem, p0, p1, p2, hlt]) rfl ⟨rfl, ?_⟩
  repeat (first | (with_reducible exact HE.out) | refine bel_al ?_ _ | refine bel_set ?_ (by omega) | refine bel_dr ?_)
/-- Open, on whatever list of which hole.Next is known. -/
theorem open_any (v : Value) (B f : Int) (w : World) (F : Int → Option (Nat × Nat)) (hN : NxAt w v F) (hF : InL F) (aA aS aR : Addr) (hV : AV w aA aS aR) :
    Calls Tryd.prog 20 #[v, .int .i64 B, .int .i64 f] w fun e w' => e = .returned (curV (openC B (F f))) ∧ Below w.heap.size w w' := by
  by_cases h : 0 ≤ B ∧ B < 32
  · cases hf : F f with
    | none =>
      rw [openC, if_pos h]
      exact open_none v B f w F hN aA aS aR hV h hf
    | some x =>
      rw [openC, if_pos h]
      exact open_some v B f x w F hN aA aS aR hV h hf (hF f x hf)
  · rw [openC, if_neg h]
    exact open_bad v B f w aA aS aR hV h
end Go.Proofs.YtanccoahpcfbnaaDoor
