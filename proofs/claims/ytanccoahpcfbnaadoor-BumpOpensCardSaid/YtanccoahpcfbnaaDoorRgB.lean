/-
  selionref11: Open, Next, All, Same.
-/
import Derived.Test.YtanccoahpcfbnaaDoorRgA
import Derived.Test.YtanccoahpcfbnaaDoorRefB
import Derived.Test.YtanccoahpcfbnaaDoorBuK
namespace Go.Proofs.YtanccoahpcfbnaaDoor
open Go.RowKit Go.Lib Go.Shelf Ad
attribute [local go_sem] Oper.semAt_some
set_option linter.unusedSimpArgs false
set_option linter.unusedVariables false

/-- What selionref08.Next answers on a list, at every line, from this world on. -/
def RNxAt (w : World) (v : Value) (F : Int → Option (Nat × Nat)) : Prop := ∀ W f, Below w.heap.size w W → Calls Tryd.prog 43 #[v, .int .i64 f] W fun e w' => e = .returned (firstV (F f)) ∧ Below W.heap.size W w'
theorem RNxAt.below {w w' : World} {v : Value} {F : Int → Option (Nat × Nat)} (h : RNxAt w v F) (hb : Below w.heap.size w w') : RNxAt w' v F := fun W f hW => h W f (bstep hb hW)
theorem rtab_nx {w : World} {b o cap : Nat} {z : Nat → Int} (hT : Tab w b o z) (hr : rightT z = true) : RNxAt w (.slice (some ⟨b, o, none⟩) 32 cap) (FT (keptZ z)) := fun W f hW => rnext_yes b o cap z f W (hT.below hW) hr
theorem rno_nx {w : World} {p : Option Addr} {n cap : Nat} (hI : IC w p n) (hn : n ≤ 34) (h : NoTab w (.slice p n cap)) : RNxAt w (.slice p n cap) (fun _ => none) := fun W f hW => rnext_no p n cap f W (hI.below hW) hn (h.below hW)
set_option maxRecDepth 100000 in
set_option maxHeartbeats 1000000 in
theorem ropen_none (v : Value) (B f : Int)  (w : World) (H : ∀ W, Below w.heap.size w W → Calls Tryd.prog 43 #[v, .int .i64 f] W fun e w' => e = .returned (.tuple #[.agg #[.int .i64 0, .int .i64 0], .bool false]) ∧ Below W.heap.size W w') :
    Calls Tryd.prog 23 #[v, .int .i64 B, .int .i64 f] w fun e w' => e = .returned (.tuple #[.agg #[.int .i64 0, .int .i64 0, .int .i64 0], .bool false]) ∧ Below w.heap.size w w' := by
  obtain ⟨b0, hB, hs⟩ := blk1 w #[.int .i64 0, .int .i64 0, .int .i64 0] 23
  have HN := Lib.hid (H _ hB)
  have HB := Lib.hid hB
  have B0 := Lib.hid b0
  clear b0 hB hs H
  go_enter Tryd.func23, Tryd.ntmps23
  go_wp2_with fail
  ((with_reducible refine HN.out.mono ?_))
  rintro e w1 ⟨rfl, hb⟩
  have bb := B0.out.below' hb
  have p0 : w1.cell? ⟨w.heap.size, 0, none⟩ = some (.int .i64 0) := bb.cell rfl
  have q0 := bb.frozen 0
  have p1 : w1.cell? ⟨w.heap.size, 1, none⟩ = some (.int .i64 0) := bb.cell rfl
  have q1 := bb.frozen 1
  have p2 : w1.cell? ⟨w.heap.size, 2, none⟩ = some (.int .i64 0) := bb.cell rfl
  have q2 := bb.frozen 2
  have hlt := bb.lt
  have HE := Lib.hid (bstep HB.out hb)
  clear hb bb HN
  go_wp2
  refine bodyPost_ret (v := .tuple #[.agg #[.int .i64 0, .int .i64 0, .int .i64 0], .bool false]) (by simp [results, Tryd.results23, go_sem, p0, p1, p2, hlt]) rfl ⟨rfl, ?_⟩
  repeat (with_reducible first | exact HE.out | refine bel_al ?_ _ | refine bel_set ?_ (by omega) | refine bel_dr ?_)
set_option maxRecDepth 100000 in
set_option maxHeartbeats 1000000 in
theorem ropen_neg (v : Value) (B f : Int) (x1 x2 : Nat) (hB9 : B < 0) (w : World) (H : ∀ W, Below w.heap.size w W → Calls Tryd.prog 43 #[v, .int .i64 f] W fun e w' => e = .returned (.tuple #[.agg #[.int .i64 (x1 : Int), .int .i64 (x2 : Int)], .bool true]) ∧ Below W.heap.size W w') :
    Calls Tryd.prog 23 #[v, .int .i64 B, .int .i64 f] w fun e w' => e = .returned (.tuple #[.agg #[.int .i64 0, .int .i64 0, .int .i64 0], .bool false]) ∧ Below w.heap.size w w' := by
  obtain ⟨b0, hB, hs⟩ := blk1 w #[.int .i64 0, .int .i64 0, .int .i64 0] 23
  have HN := Lib.hid (H _ hB)
  have HB := Lib.hid hB
  have B0 := Lib.hid b0
  have c1 : decide (B < 0) = true := by simpa using hB9
  clear b0 hB hs H
  go_enter Tryd.func23, Tryd.ntmps23
  go_wp2_with fail
  ((with_reducible refine HN.out.mono ?_))
  rintro e w1 ⟨rfl, hb⟩
  have bb := B0.out.below' hb
  have p0 : w1.cell? ⟨w.heap.size, 0, none⟩ = some (.int .i64 0) := bb.cell rfl
  have q0 := bb.frozen 0
  have p1 : w1.cell? ⟨w.heap.size, 1, none⟩ = some (.int .i64 0) := bb.cell rfl
  have q1 := bb.frozen 1
  have p2 : w1.cell? ⟨w.heap.size, 2, none⟩ = some (.int .i64 0) := bb.cell rfl
  have q2 := bb.frozen 2
  have hlt := bb.lt
  have HE := Lib.hid (bstep HB.out hb)
  clear hb bb HN
  go_wp2
  refine bodyPost_ret (v := .tuple #[.agg #[.int .i64 0, .int .i64 0, .int .i64 0], .bool false]) (by simp [results, Tryd.results23, go_sem, p0, p1, p2, hlt]) rfl ⟨rfl, ?_⟩
  repeat (with_reducible first | exact HE.out | refine bel_al ?_ _ | refine bel_set ?_ (by omega) | refine bel_dr ?_)
set_option maxRecDepth 100000 in
set_option maxHeartbeats 1000000 in
theorem ropen_big (v : Value) (B f : Int) (x1 x2 : Nat) (hB9 : 32 ≤ B) (w : World) (H : ∀ W, Below w.heap.size w W → Calls Tryd.prog 43 #[v, .int .i64 f] W fun e w' => e = .returned (.tuple #[.agg #[.int .i64 (x1 : Int), .int .i64 (x2 : Int)], .bool true]) ∧ Below W.heap.size W w') :
    Calls Tryd.prog 23 #[v, .int .i64 B, .int .i64 f] w fun e w' => e = .returned (.tuple #[.agg #[.int .i64 0, .int .i64 0, .int .i64 0], .bool false]) ∧ Below w.heap.size w w' := by
  obtain ⟨b0, hB, hs⟩ := blk1 w #[.int .i64 0, .int .i64 0, .int .i64 0] 23
  have HN := Lib.hid (H _ hB)
  have HB := Lib.hid hB
  have B0 := Lib.hid b0
  have c1 : decide (B < 0) = false := by simp; omega
  have c2 : decide (32 ≤ B) = true := by simpa using hB9
  clear b0 hB hs H
  go_enter Tryd.func23, Tryd.ntmps23
  go_wp2_with fail
  ((with_reducible refine HN.out.mono ?_))
  rintro e w1 ⟨rfl, hb⟩
  have bb := B0.out.below' hb
  have p0 : w1.cell? ⟨w.heap.size, 0, none⟩ = some (.int .i64 0) := bb.cell rfl
  have q0 := bb.frozen 0
  have p1 : w1.cell? ⟨w.heap.size, 1, none⟩ = some (.int .i64 0) := bb.cell rfl
  have q1 := bb.frozen 1
  have p2 : w1.cell? ⟨w.heap.size, 2, none⟩ = some (.int .i64 0) := bb.cell rfl
  have q2 := bb.frozen 2
  have hlt := bb.lt
  have HE := Lib.hid (bstep HB.out hb)
  clear hb bb HN
  go_wp2
  refine bodyPost_ret (v := .tuple #[.agg #[.int .i64 0, .int .i64 0, .int .i64 0], .bool false]) (by simp [results, Tryd.results23, go_sem, p0, p1, p2, hlt]) rfl ⟨rfl, ?_⟩
  repeat (with_reducible first | exact HE.out | refine bel_al ?_ _ | refine bel_set ?_ (by omega) | refine bel_dr ?_)
set_option maxRecDepth 100000 in
set_option maxHeartbeats 1000000 in
theorem ropen_some (v : Value) (B f : Int) (x1 x2 : Nat) (h0 : 0 ≤ B) (h1 : B < 32) (h2 : x1 < x2) (h3 : x2 ≤ 32) (w : World) (H : ∀ W, Below w.heap.size w W → Calls Tryd.prog 43 #[v, .int .i64 f] W fun e w' => e = .returned (.tuple #[.agg #[.int .i64 (x1 : Int), .int .i64 (x2 : Int)], .bool true]) ∧ Below W.heap.size W w') :
    Calls Tryd.prog 23 #[v, .int .i64 B, .int .i64 f] w fun e w' => e = .returned (.tuple #[.agg #[.int .i64 B, .int .i64 (4096 * B + (x1 : Int) * 128), .int .i64 (4096 * B + (x2 : Int) * 128)], .bool true]) ∧ Below w.heap.size w w' := by
  obtain ⟨b0, hB, hs⟩ := blk1 w #[.int .i64 0, .int .i64 0, .int .i64 0] 23
  have HN := Lib.hid (H _ hB)
  have HB := Lib.hid hB
  have B0 := Lib.hid b0
  have h4 : x1 ≤ 32 := by omega
  have c1 : decide (B < 0) = false := by simp; omega
  have c2 : decide (32 ≤ B) = false := by simp; omega
  rw [show 4096 * B = B * 4096 by omega]
  clear b0 hB hs H
  go_enter Tryd.func23, Tryd.ntmps23
  go_wp2_with fail
  ((with_reducible refine HN.out.mono ?_))
  rintro e w1 ⟨rfl, hb⟩
  have bb := B0.out.below' hb
  have p0 : w1.cell? ⟨w.heap.size, 0, none⟩ = some (.int .i64 0) := bb.cell rfl
  have q0 := bb.frozen 0
  have p1 : w1.cell? ⟨w.heap.size, 1, none⟩ = some (.int .i64 0) := bb.cell rfl
  have q1 := bb.frozen 1
  have p2 : w1.cell? ⟨w.heap.size, 2, none⟩ = some (.int .i64 0) := bb.cell rfl
  have q2 := bb.frozen 2
  have hlt := bb.lt
  have HE := Lib.hid (bstep HB.out hb)
  clear hb bb HN
  go_wp2
  refine bodyPost_ret (v := .tuple #[.agg #[.int .i64 B, .int .i64 (B * 4096 + (x1 : Int) * 128), .int .i64 (B * 4096 + (x2 : Int) * 128)], .bool true]) (by simp [results, Tryd.results23, go_sem, p0, p1, p2, hlt]) rfl ⟨rfl, ?_⟩
  repeat (with_reducible first | exact HE.out | refine bel_al ?_ _ | refine bel_set ?_ (by omega) | refine bel_dr ?_)
theorem ropen_any (v : Value) (B f : Int) (w : World) (F : Int → Option (Nat × Nat)) (hN : RNxAt w v F) (hF : InL F) :
    Calls Tryd.prog 23 #[v, .int .i64 B, .int .i64 f] w fun e w' => e = .returned (curV (openC B (F f))) ∧ Below w.heap.size w w' := by
  have hN' := fun W (hW : Below w.heap.size w W) => hN W f hW
  cases hf : F f with
  | none =>
    rw [hf] at hN'
    rw [show openC B (none : Option (Nat × Nat)) = none by unfold openC; split <;> rfl]
    exact ropen_none v B f w hN'
  | some x =>
    obtain ⟨x1, x2⟩ := x
    obtain ⟨h2, h3⟩ := hF f _ hf
    rw [hf] at hN'
    by_cases h : 0 ≤ B ∧ B < 32
    · rw [openC, if_pos h]
      exact ropen_some v B f x1 x2 h.1 h.2 h2 h3 w hN'
    · rw [openC, if_neg h]
      by_cases h1 : B < 0
      · exact ropen_neg v B f x1 x2 h1 w hN'
      · exact ropen_big v B f x1 x2 (by omega) w hN'
set_option maxRecDepth 100000 in
set_option maxHeartbeats 1000000 in
theorem rnx_not (p : Option Addr) (n cap : Nat) (B A L : Int) (w : World) (hr : ¬ rightC B A L) :
    Calls Tryd.prog 25 #[.slice p n cap, .agg #[.int .i64 B, .int .i64 A, .int .i64 L]] w fun e w' => e = .returned (.tuple #[.agg #[.int .i64 0, .int .i64 0, .int .i64 0], .bool false]) ∧ Below w.heap.size w w' := by
  obtain ⟨b0, b1, hB, hs⟩ := blk2 w #[.int .i64 B, .int .i64 A, .int .i64 L] #[.int .i64 0, .int .i64 0, .int .i64 0] 23 23
  have HR := Lib.hid (rright_f11 B A L ((w.alloc (.cells #[.int .i64 B, .int .i64 A, .int .i64 L] 23)).alloc (.cells #[.int .i64 0, .int .i64 0, .int .i64 0] 23)) hr)
  have B0 := Lib.hid b0
  have B1 := Lib.hid b1
  have HB := Lib.hid hB
  clear b0 b1 hB hs hr
  go_enter Tryd.func25, Tryd.ntmps25
  go_wp2_with fail
  ((with_reducible refine HR.out.mono ?_))
  rintro e w1 ⟨rfl, hb⟩
  have b0 := B0.out.below' hb
  have b1 := B1.out.below' hb
  have c0 : w1.cell? ⟨w.heap.size, 0, none⟩ = some (.int .i64 B) := b0.cell rfl
  have c1 : w1.cell? ⟨w.heap.size, 1, none⟩ = some (.int .i64 A) := b0.cell rfl
  have c2 : w1.cell? ⟨w.heap.size, 2, none⟩ = some (.int .i64 L) := b0.cell rfl
  have p0 : w1.cell? ⟨w.heap.size + 1, 0, none⟩ = some (.int .i64 0) := b1.cell rfl
  have q0 := b1.frozen 0
  have p1 : w1.cell? ⟨w.heap.size + 1, 1, none⟩ = some (.int .i64 0) := b1.cell rfl
  have q1 := b1.frozen 1
  have p2 : w1.cell? ⟨w.heap.size + 1, 2, none⟩ = some (.int .i64 0) := b1.cell rfl
  have q2 := b1.frozen 2
  have hlt := b1.lt
  have HE := Lib.hid (bstep HB.out hb)
  clear hb b0 b1 HR
  go_wp2
  refine bodyPost_ret (v := .tuple #[.agg #[.int .i64 0, .int .i64 0, .int .i64 0], .bool false]) (by simp [results, Tryd.results25, go_sem, p0, p1, p2, hlt]) rfl ⟨rfl, ?_⟩
  repeat (with_reducible first | exact HE.out | refine bel_al ?_ _ | refine bel_set ?_ (by omega) | refine bel_dr ?_)
set_option maxRecDepth 100000 in
set_option maxHeartbeats 1000000 in
theorem rnx_no (p : Option Addr) (n cap : Nat) (B A L : Int) (w : World) (hr : rightC B A L) (hn : isNo B A L) :
    Calls Tryd.prog 25 #[.slice p n cap, .agg #[.int .i64 B, .int .i64 A, .int .i64 L]] w fun e w' => e = .returned (.tuple #[.agg #[.int .i64 0, .int .i64 0, .int .i64 0], .bool false]) ∧ Below w.heap.size w w' := by
  obtain ⟨b0, b1, hB, hs⟩ := blk2 w #[.int .i64 B, .int .i64 A, .int .i64 L] #[.int .i64 0, .int .i64 0, .int .i64 0] 23 23
  have HR := Lib.hid (rright_t11 B A L ((w.alloc (.cells #[.int .i64 B, .int .i64 A, .int .i64 L] 23)).alloc (.cells #[.int .i64 0, .int .i64 0, .int .i64 0] 23)) hr)
  have z1 : decide (B < 0) = true := by have := hn.1; simp; omega
  clear hn
  have B0 := Lib.hid b0
  have B1 := Lib.hid b1
  have HB := Lib.hid hB
  clear b0 b1 hB hs hr
  go_enter Tryd.func25, Tryd.ntmps25
  go_wp2_with fail
  ((with_reducible refine HR.out.mono ?_))
  rintro e w1 ⟨rfl, hb⟩
  have b0 := B0.out.below' hb
  have b1 := B1.out.below' hb
  have c0 : w1.cell? ⟨w.heap.size, 0, none⟩ = some (.int .i64 B) := b0.cell rfl
  have c1 : w1.cell? ⟨w.heap.size, 1, none⟩ = some (.int .i64 A) := b0.cell rfl
  have c2 : w1.cell? ⟨w.heap.size, 2, none⟩ = some (.int .i64 L) := b0.cell rfl
  have p0 : w1.cell? ⟨w.heap.size + 1, 0, none⟩ = some (.int .i64 0) := b1.cell rfl
  have q0 := b1.frozen 0
  have p1 : w1.cell? ⟨w.heap.size + 1, 1, none⟩ = some (.int .i64 0) := b1.cell rfl
  have q1 := b1.frozen 1
  have p2 : w1.cell? ⟨w.heap.size + 1, 2, none⟩ = some (.int .i64 0) := b1.cell rfl
  have q2 := b1.frozen 2
  have hlt := b1.lt
  have HE := Lib.hid (bstep HB.out hb)
  clear hb b0 b1 HR
  go_wp2
  refine bodyPost_ret (v := .tuple #[.agg #[.int .i64 0, .int .i64 0, .int .i64 0], .bool false]) (by simp [results, Tryd.results25, go_sem, p0, p1, p2, hlt]) rfl ⟨rfl, ?_⟩
  repeat (with_reducible first | exact HE.out | refine bel_al ?_ _ | refine bel_set ?_ (by omega) | refine bel_dr ?_)
set_option maxRecDepth 100000 in
set_option maxHeartbeats 1000000 in
theorem rnx_none (p : Option Addr) (n cap : Nat) (B A L : Int) (w : World) (hi : inBk B A L) (hO : ∀ W (k : Nat), (k : Int) = lineC B L → Below w.heap.size w W → Calls Tryd.prog 23 #[.slice p n cap, .int .i64 B, .int .i64 (k : Int)] W fun e w' => e = .returned (.tuple #[.agg #[.int .i64 0, .int .i64 0, .int .i64 0], .bool false]) ∧ Below W.heap.size W w') :
    Calls Tryd.prog 25 #[.slice p n cap, .agg #[.int .i64 B, .int .i64 A, .int .i64 L]] w fun e w' => e = .returned (.tuple #[.agg #[.int .i64 0, .int .i64 0, .int .i64 0], .bool false]) ∧ Below w.heap.size w w' := by
  obtain ⟨b0, b1, hB, hs⟩ := blk2 w #[.int .i64 B, .int .i64 A, .int .i64 L] #[.int .i64 0, .int .i64 0, .int .i64 0] 23 23
  have HR := Lib.hid (rright_t11 B A L ((w.alloc (.cells #[.int .i64 B, .int .i64 A, .int .i64 L] 23)).alloc (.cells #[.int .i64 0, .int .i64 0, .int .i64 0] 23)) (.inr hi))
  have HO := Lib.hid hO
  obtain ⟨h0, h1, _, _, h4, h5, h6⟩ := hi
  have z1 : decide (B < 0) = false := by simp; omega
  clear hO
  have B0 := Lib.hid b0
  have B1 := Lib.hid b1
  have HB := Lib.hid hB
  clear b0 b1 hB hs
  go_enter Tryd.func25, Tryd.ntmps25
  go_wp2_with fail
  ((with_reducible refine HR.out.mono ?_))
  rintro e w1 ⟨rfl, hb⟩
  have b0 := B0.out.below' hb
  have b1 := B1.out.below' hb
  have c0 : w1.cell? ⟨w.heap.size, 0, none⟩ = some (.int .i64 B) := b0.cell rfl
  have c1 : w1.cell? ⟨w.heap.size, 1, none⟩ = some (.int .i64 A) := b0.cell rfl
  have c2 : w1.cell? ⟨w.heap.size, 2, none⟩ = some (.int .i64 L) := b0.cell rfl
  have B1' := Lib.hid b1
  have HE := Lib.hid (bstep HB.out hb)
  have hlt0 := b0.lt
  clear hb b0 b1 HR B0 B1
  go_wp2
  go_loop [6] (fun s => ∃ k : Nat, (k : Int) ≤ lineC B L ∧ s = .int .i64 (k : Int)) (fun s => (lineC B L - intOf s).toNat)
  case atStart => exact ⟨0, by unfold lineC; omega, rfl⟩
  case round =>
    obtain ⟨k, hk, rfl⟩ := hrel
    unfold lineC at hk
    by_cases hlt : B * 4096 + (k : Int) * 128 < L
    · have z2 : decide (B * 4096 + (k : Int) * 128 < L) = true := by simpa using hlt
      go_wp2
      go_round
      case rel => exact ⟨k + 1, by unfold lineC; omega, by go_num⟩
      case measure => simp [intOf]; unfold lineC; omega
    · have z2 : decide (B * 4096 + (k : Int) * 128 < L) = false := by simpa using hlt
      have hkl : (k : Int) = lineC B L := by unfold lineC; omega
      have HC := Lib.hid (HO.out w1 k hkl HE.out)
      clear hkl
      go_wp2_with fail
      ((with_reducible refine HC.out.mono ?_))
      rintro e w2 ⟨rfl, hb⟩
      have b1 := B1'.out.below' hb
      have p0 : w2.cell? ⟨w.heap.size + 1, 0, none⟩ = some (.int .i64 0) := b1.cell rfl
      have q0 := b1.frozen 0
      have p1 : w2.cell? ⟨w.heap.size + 1, 1, none⟩ = some (.int .i64 0) := b1.cell rfl
      have q1 := b1.frozen 1
      have p2 : w2.cell? ⟨w.heap.size + 1, 2, none⟩ = some (.int .i64 0) := b1.cell rfl
      have q2 := b1.frozen 2
      have hlt1 := b1.lt
      have HE2 := Lib.hid (bstep HE.out hb)
      clear hb b1 HC
      go_wp2
      refine bodyPost_ret (v := .tuple #[.agg #[.int .i64 0, .int .i64 0, .int .i64 0], .bool false]) (by simp [results, Tryd.results25, go_sem, p0, p1, p2, hlt1]) rfl ⟨rfl, ?_⟩
      repeat (with_reducible first | exact HE2.out | refine bel_al ?_ _ | refine bel_set ?_ (by omega) | refine bel_dr ?_)
set_option maxRecDepth 100000 in
set_option maxHeartbeats 1000000 in
theorem rnx_some (p : Option Addr) (n cap : Nat) (B A L : Int) (w : World) (B' A' L' : Int) (hi : inBk B A L) (hO : ∀ W (k : Nat), (k : Int) = lineC B L → Below w.heap.size w W → Calls Tryd.prog 23 #[.slice p n cap, .int .i64 B, .int .i64 (k : Int)] W fun e w' => e = .returned (.tuple #[.agg #[.int .i64 B', .int .i64 A', .int .i64 L'], .bool true]) ∧ Below W.heap.size W w') :
    Calls Tryd.prog 25 #[.slice p n cap, .agg #[.int .i64 B, .int .i64 A, .int .i64 L]] w fun e w' => e = .returned (.tuple #[.agg #[.int .i64 B', .int .i64 A', .int .i64 L'], .bool true]) ∧ Below w.heap.size w w' := by
  obtain ⟨b0, b1, hB, hs⟩ := blk2 w #[.int .i64 B, .int .i64 A, .int .i64 L] #[.int .i64 0, .int .i64 0, .int .i64 0] 23 23
  have HR := Lib.hid (rright_t11 B A L ((w.alloc (.cells #[.int .i64 B, .int .i64 A, .int .i64 L] 23)).alloc (.cells #[.int .i64 0, .int .i64 0, .int .i64 0] 23)) (.inr hi))
  have HO := Lib.hid hO
  obtain ⟨h0, h1, _, _, h4, h5, h6⟩ := hi
  have z1 : decide (B < 0) = false := by simp; omega
  clear hO
  have B0 := Lib.hid b0
  have B1 := Lib.hid b1
  have HB := Lib.hid hB
  clear b0 b1 hB hs
  go_enter Tryd.func25, Tryd.ntmps25
  go_wp2_with fail
  ((with_reducible refine HR.out.mono ?_))
  rintro e w1 ⟨rfl, hb⟩
  have b0 := B0.out.below' hb
  have b1 := B1.out.below' hb
  have c0 : w1.cell? ⟨w.heap.size, 0, none⟩ = some (.int .i64 B) := b0.cell rfl
  have c1 : w1.cell? ⟨w.heap.size, 1, none⟩ = some (.int .i64 A) := b0.cell rfl
  have c2 : w1.cell? ⟨w.heap.size, 2, none⟩ = some (.int .i64 L) := b0.cell rfl
  have B1' := Lib.hid b1
  have HE := Lib.hid (bstep HB.out hb)
  have hlt0 := b0.lt
  clear hb b0 b1 HR B0 B1
  go_wp2
  go_loop [6] (fun s => ∃ k : Nat, (k : Int) ≤ lineC B L ∧ s = .int .i64 (k : Int)) (fun s => (lineC B L - intOf s).toNat)
  case atStart => exact ⟨0, by unfold lineC; omega, rfl⟩
  case round =>
    obtain ⟨k, hk, rfl⟩ := hrel
    unfold lineC at hk
    by_cases hlt : B * 4096 + (k : Int) * 128 < L
    · have z2 : decide (B * 4096 + (k : Int) * 128 < L) = true := by simpa using hlt
      go_wp2
      go_round
      case rel => exact ⟨k + 1, by unfold lineC; omega, by go_num⟩
      case measure => simp [intOf]; unfold lineC; omega
    · have z2 : decide (B * 4096 + (k : Int) * 128 < L) = false := by simpa using hlt
      have hkl : (k : Int) = lineC B L := by unfold lineC; omega
      have HC := Lib.hid (HO.out w1 k hkl HE.out)
      clear hkl
      go_wp2_with fail
      ((with_reducible refine HC.out.mono ?_))
      rintro e w2 ⟨rfl, hb⟩
      have b1 := B1'.out.below' hb
      have p0 : w2.cell? ⟨w.heap.size + 1, 0, none⟩ = some (.int .i64 0) := b1.cell rfl
      have q0 := b1.frozen 0
      have p1 : w2.cell? ⟨w.heap.size + 1, 1, none⟩ = some (.int .i64 0) := b1.cell rfl
      have q1 := b1.frozen 1
      have p2 : w2.cell? ⟨w.heap.size + 1, 2, none⟩ = some (.int .i64 0) := b1.cell rfl
      have q2 := b1.frozen 2
      have hlt1 := b1.lt
      have HE2 := Lib.hid (bstep HE.out hb)
      clear hb b1 HC
      go_wp2
      refine bodyPost_ret (v := .tuple #[.agg #[.int .i64 B', .int .i64 A', .int .i64 L'], .bool true]) (by simp [results, Tryd.results25, go_sem, p0, p1, p2, hlt1]) rfl ⟨rfl, ?_⟩
      repeat (with_reducible first | exact HE2.out | refine bel_al ?_ _ | refine bel_set ?_ (by omega) | refine bel_dr ?_)
theorem rbnext_any (p : Option Addr) (n cap : Nat) (c : Cu) (w : World) (F : Int → Option (Nat × Nat)) (hN : RNxAt w (.slice p n cap) F) (hF : InL F) :
    Calls Tryd.prog 25 #[.slice p n cap, .agg #[.int .i64 c.1, .int .i64 c.2.1, .int .i64 c.2.2]] w fun e w' => e = .returned (curV (nextC F c)) ∧ Below w.heap.size w w' := by
  obtain ⟨B, A, L⟩ := c
  by_cases h : inBk B A L
  · have hO : ∀ W (k : Nat), (k : Int) = lineC B L → Below w.heap.size w W → Calls Tryd.prog 23 #[.slice p n cap, .int .i64 B, .int .i64 (k : Int)] W fun e w' => e = .returned (curV (nextC F (B, A, L))) ∧ Below W.heap.size W w' := fun W k hk hW => by
      have := ropen_any (.slice p n cap) B k W F (hN.below hW) hF
      rw [hk] at this ⊢
      rwa [show nextC F (B, A, L) = openC B (F (lineC B L)) by simp [nextC, h]]
    cases hn : nextC F (B, A, L) with
    | none => rw [hn] at hO; exact rnx_none p n cap B A L w h hO
    | some d =>
      obtain ⟨B', A', L'⟩ := d
      rw [hn] at hO
      exact rnx_some p n cap B A L w B' A' L' h hO
  · rw [show nextC F (B, A, L) = none by simp [nextC, h]]
    by_cases hr : rightC B A L
    · exact rnx_no p n cap B A L w hr (hr.resolve_right h)
    · exact rnx_not p n cap B A L w hr
theorem own_base {W : World} {base base' : Nat} {e : TypeId} {size n : Nat} {v : Value} {xs : List Value} (h : W.ownsRow base e size v n xs) (hb : base' ≤ base) : W.ownsRow base' e size v n xs := by
  refine ⟨h.1, ?_⟩
  rcases h.2 with h | ⟨g, cap, cur, h1, h2, h3⟩
  · exact .inl h
  · exact .inr ⟨g, cap, cur, h1, by omega, h3⟩
theorem own_geq {W : World} {base : Nat} {e : TypeId} {size n : Nat} {v : Value} {xs : List Value} (h : W.ownsRow base e size v n xs) {k : Nat} (hk : v.ownBlock = some k) : base ≤ k := by
  rcases h.2 with ⟨rfl, _⟩ | ⟨g, cap, cur, rfl, hb, _⟩
  · simp [Value.ownBlock] at hk
  · simp [Value.ownBlock] at hk; omega
theorem limB_eq {b : Nat} {W : World} {c : Cu} {t : TypeId} (h : Blk W b (curA (some c)) t) : limW b W = c.2.2 := by
  have : W.cell? ⟨b, 2, none⟩ = some (.int .i64 c.2.2) := h.cell rfl
  simp [limW, this]
theorem rbn_abc (p : Option Addr) (n cap : Nat) (c : Cu) (w : World) (F : Int → Option (Nat × Nat)) (hN : RNxAt w (.slice p n cap) F) (hF : InL F) (o : Option Cu) (ho : nextC F c = o) : ∃ a b d bb, curA o = #[.int .i64 a, .int .i64 b, .int .i64 d] ∧ o.isSome = bb ∧ ∀ W, Below w.heap.size w W →
    Calls Tryd.prog 25 #[.slice p n cap, .agg #[.int .i64 c.1, .int .i64 c.2.1, .int .i64 c.2.2]] W fun e w' => e = .returned (.tuple #[.agg #[.int .i64 a, .int .i64 b, .int .i64 d], .bool bb]) ∧ Below W.heap.size W w' := by
  obtain ⟨a, b, d, h⟩ := cur_abc o
  refine ⟨a, b, d, _, h, rfl, fun W hW => ?_⟩
  have := rbnext_any p n cap c W F (hN.below hW) hF
  rw [ho, curV, h] at this
  exact this
set_option maxRecDepth 100000 in
set_option maxHeartbeats 2000000 in
theorem rall_any (p : Option Addr) (n cap : Nat) (B0 A0 L0 : Int) (w : World) (F : Int → Option (Nat × Nat)) (hN : RNxAt w (.slice p n cap) F) (hF : InL F) (B : Int) (hs : List (Nat × Nat)) (hC : Chn F B (B0, A0, L0) hs) :
    Calls Tryd.prog 28 #[.slice p n cap, .agg #[.int .i64 B0, .int .i64 A0, .int .i64 L0]] w (CuPost w B hs) := by
  obtain ⟨i0, hi, hz0, hz1, hz2⟩ := info_parts Tryd.infoCur
  obtain ⟨a, b, d, bb, habc, hbb, h0⟩ := rbn_abc p n cap (B0, A0, L0) w F hN hF _ hC.first
  have H0 := Lib.hid h0
  have HN := Lib.hid hN
  have HF := Lib.hid hF
  have HC := Lib.hid hC
  have Habc := Lib.hid habc
  have Hbb := Lib.hid hbb
  have hlen := hC.len
  clear h0 hN hF hC habc hbb
  go_enter Tryd.func28, Tryd.ntmps28
  go_wp2_with fail
  have HB0 := Lib.hid (bel_al (Below.refl _ w) (.cells #[.int .i64 B0, .int .i64 A0, .int .i64 L0] 23))
  generalize w.alloc (.cells #[.int .i64 B0, .int .i64 A0, .int .i64 L0] 23) = w0 at HB0 ⊢
  ((with_reducible refine (H0.out w0 HB0.out).mono ?_))
  rintro e w1 ⟨rfl, hb⟩
  have HB1 := Lib.hid (bstep HB0.out hb)
  have hw1 := HB1.out.size
  clear hb HB0 H0
  go_wp2
  go_loopw [5, 7] (fun s5 s7 wr => ∃ (j : Nat) (lv : Value), s5 = lv ∧ s7 = .bool hs[j]?.isSome ∧ j ≤ hs.length ∧ Blk wr w1.heap.size (curA (hs[j]?.map (mkC B))) 23 ∧ wr.ownsRow (w1.heap.size + 1) 23 3 lv j (cvals B (hs.take j)) ∧ Below w.heap.size w wr) (fun _ s7 wr => match s7 with | .bool true => 1 + (4096 * B + 5000 - limW w1.heap.size wr).toNat | _ => 0)
  case atStart =>
    have hh : hs[0]? = hs.head? := by cases hs <;> rfl
    refine ⟨0, .slice none 0 0, rfl, ?_, Nat.zero_le _, ?_, World.ownsRow_nil _ _ _ _, bel_al HB1.out _⟩
    · rw [hh, ← Hbb.out, Option.isSome_map]
    · rw [hh, Habc.out]
      exact Blk.new _ _ _
  case round =>
    obtain ⟨j, lv, rfl, e7, hj, bD, row, hb⟩ := hrel
    obtain ⟨q, c, rfl⟩ := own_sl row
    clear Habc Hbb HB1
    cases hx : hs[j]? with
    | none =>
      rw [hx, Option.isSome_none] at e7
      subst e7
      have hjl : j = hs.length := by
        have := List.getElem?_eq_none_iff.1 hx
        omega
      subst hjl
      rw [List.take_length] at row
      have ROW := Lib.hid row
      have HBe := Lib.hid hb
      clear hx row hb bD hj
      go_wp2
      go_ret
      exact ⟨_, rfl, own_base ROW.out (by omega), HBe.out⟩
    | some x =>
      rw [hx, Option.isSome_some] at e7
      rw [hx] at bD
      subst e7
      have hx2 := HC.out.top x (List.mem_of_getElem? hx)
      have hjl := (List.getElem?_eq_some_iff.1 hx).1
      obtain ⟨a', b', d', bb', habc, hbb, h1⟩ := rbn_abc p n cap (mkC B x) w F HN.out HF.out _ (HC.out.next j x hx)
      have c0 : wr.cell? ⟨w1.heap.size, 0, none⟩ = some (.int .i64 B) := bD.cell rfl
      have c1 : wr.cell? ⟨w1.heap.size, 1, none⟩ = some (.int .i64 (4096 * B + (x.1 : Int) * 128)) := bD.cell rfl
      have c2 : wr.cell? ⟨w1.heap.size, 2, none⟩ = some (.int .i64 (4096 * B + (x.2 : Int) * 128)) := bD.cell rfl
      have hlm := limB_eq bD
      have HLM := Lib.hid hlm
      dsimp only [mkC] at h1
      have H1 := Lib.hid h1
      have HX := Lib.hid hx
      have Habc := Lib.hid habc
      have Hbb := Lib.hid hbb
      have ROW := Lib.hid row
      have BD := Lib.hid bD
      have HBr := Lib.hid hb
      have hbl := bD.lt
      have hbs := hb.size
      clear hlm h1 hx habc hbb row bD hb
      go_wp2_with (at_builtin; refine wpList_append_own _ rfl _ _ 45 rfl (w1.heap.size + 1) 23 i0 (.agg #[.int .i64 0, .int .i64 0, .int .i64 0]) 3 24 Tryd.underlying45 hi hz0 hz1 hz2 rfl (by decide) (.slice q j c) j (cvals B (hs.take j)) rfl (ROW.out.alloc _) ⟨wr.heap.size, 0, none⟩ 1 1 [.int .i64 B, .int .i64 (4096 * B + (x.1 : Int) * 128), .int .i64 (4096 * B + (x.2 : Int) * 128)] rfl rfl (cell_three_new _ _ _ _ _) (by simp [Value.oneCell']) (by unfold maxLen; omega) (by omega) (by simp; omega) ?_; intro v' w2 hown2 hgrow2 _; obtain ⟨q', c', rfl⟩ := own_sl hown2; have bD2 := (BD.out.alloc (.cells #[.int .i64 B, .int .i64 (4096 * B + (x.1 : Int) * 128), .int .i64 (4096 * B + (x.2 : Int) * 128)] 23)).grown hgrow2 (fun e => by have := own_geq ROW.out e.symm; omega); have d0 : w2.cell? ⟨w1.heap.size, 0, none⟩ = some (.int .i64 B) := bD2.cell rfl; have d1 : w2.cell? ⟨w1.heap.size, 1, none⟩ = some (.int .i64 (4096 * B + (x.1 : Int) * 128)) := bD2.cell rfl; have d2 : w2.cell? ⟨w1.heap.size, 2, none⟩ = some (.int .i64 (4096 * B + (x.2 : Int) * 128)) := bD2.cell rfl; have HB2 := Lib.hid ((bel_al HBr.out (.cells #[.int .i64 B, .int .i64 (4096 * B + (x.1 : Int) * 128), .int .i64 (4096 * B + (x.2 : Int) * 128)] 23)).grown hgrow2 (bel_al HBr.out (.cells #[.int .i64 B, .int .i64 (4096 * B + (x.1 : Int) * 128), .int .i64 (4096 * B + (x.2 : Int) * 128)] 23)).size (fun k ek => by have := own_geq ROW.out ek; omega)); have HO2 := Lib.hid hown2; have BD2 := Lib.hid bD2; clear bD2 hown2 hgrow2 c0 c1 c2)
      ((with_reducible refine (H1.out w2 HB2.out).mono ?_))
      rintro e w3 ⟨rfl, hb⟩
      have bD3 := BD2.out.below' hb
      have g0 : w3.cell? ⟨w1.heap.size, 0, none⟩ = some (.int .i64 B) := bD3.cell rfl
      have g1 : w3.cell? ⟨w1.heap.size, 1, none⟩ = some (.int .i64 (4096 * B + (x.1 : Int) * 128)) := bD3.cell rfl
      have g2 : w3.cell? ⟨w1.heap.size, 2, none⟩ = some (.int .i64 (4096 * B + (x.2 : Int) * 128)) := bD3.cell rfl
      have z0 := bD3.frozen 0
      have z1 := bD3.frozen 1
      have z2 := bD3.frozen 2
      have BD3 := Lib.hid bD3
      have HB3 := Lib.hid (bstep HB2.out hb)
      have ROW3 := Lib.hid (HO2.out.kept (row := none) ⟨hb.os, hb.tape, hb.output, hb.size, fun k hk _ => hb.block k hk⟩ (Classical.em _))
      clear bD3 hb d0 d1 d2
      go_wp2
      go_roundw
      case rel =>
        have bX := ((BD3.out.set 0 (.int .i64 a')).set 1 (.int .i64 b')).set 2 (.int .i64 d')
        have hg : w3.grownBy (((w3.setCell ⟨w1.heap.size, 0, none⟩ (.int .i64 a')).setCell ⟨w1.heap.size, 1, none⟩ (.int .i64 b')).setCell ⟨w1.heap.size, 2, none⟩ (.int .i64 d')) (some w1.heap.size) := (((Upd.refl w1.heap.size w3).set).set).set
        refine ⟨j + 1, .slice q' (j + 1) c', rfl, ?_, by omega, ?_, ?_, ?_⟩
        · rw [← Hbb.out, Option.isSome_map]
        · rw [Habc.out]
          exact bX
        · rw [cvals_snoc B hs j x HX.out]
          refine ROW3.out.kept hg (.inr fun e => ?_)
          have := own_geq ROW3.out e
          omega
        · exact HB3.out.grown hg HB3.out.size (fun k e => by cases e; omega)
      case measure =>
        cases hy : hs[j + 1]? with
        | none =>
          have : bb' = false := by rw [← Hbb.out, hy]; rfl
          subst this
          show 0 < 1 + _
          omega
        | some y =>
          have : bb' = true := by rw [← Hbb.out, hy]; rfl
          subst this
          have bX := ((BD3.out.set 0 (.int .i64 a')).set 1 (.int .i64 b')).set 2 (.int .i64 d')
          have e2 : curA (some (mkC B y)) = #[.int .i64 a', .int .i64 b', .int .i64 d'] := by rw [← Habc.out, hy]; rfl
          have h2 := limB_eq (c := mkC B y) (by rw [e2]; exact bX)
          have h3 := HC.out.up j x y HX.out hy
          have hy2 := HC.out.top y (List.mem_of_getElem? hy)
          rw [HLM.out, h2]
          simp [mkC]
          omega
set_option maxRecDepth 100000 in
set_option maxHeartbeats 1000000 in
theorem rsame_yes (v u : Value) (B : Int) (hs : List (Nat × Nat)) (w : World) (b1 b2 : Nat) (hv : w.ownsRow b1 23 3 v hs.length (cvals B hs)) (hu : w.ownsRow b2 23 3 u hs.length (cvals B hs)) (hl : hs.length ≤ 1000) :
    Calls Tryd.prog 26 #[v, u] w fun e w' => e = .returned (.bool true) ∧ Below w.heap.size w w' := by
  obtain ⟨p, cap, rfl⟩ := own_sl hv
  obtain ⟨q, cap', rfl⟩ := own_sl hu
  have HP := Lib.hid (fun j x hx => cur_cells hv j x hx)
  have HQ := Lib.hid (fun j x hx => cur_cells hu j x hx)
  clear hv hu
  generalize hn : hs.length = n at hl ⊢
  have HN := Lib.hid hn
  have hd : ((n : Int) != (n : Int)) = false := by simp
  clear hn
  go_enter Tryd.func26, Tryd.ntmps26
  go_wp2
  go_loopw [5] (fun i wr => ∃ k : Nat, k ≤ n ∧ i = .int .i64 (k : Int) ∧ Below w.heap.size w wr) (fun i _ => n - (intOf i).toNat)
  case atStart => exact ⟨0, by omega, rfl, Below.refl _ _⟩
  case round =>
    obtain ⟨k, hk, rfl, hB⟩ := hrel
    by_cases hlt : k < n
    · have hlt' : k < hs.length := by have := HN.out; omega
      obtain ⟨b, rfl, _, c0, c1, c2⟩ := HP.out k _ (List.getElem?_eq_getElem hlt')
      obtain ⟨b', rfl, _, d0, d1, d2⟩ := HQ.out k _ (List.getElem?_eq_getElem hlt')
      generalize hs[k] = x at c0 c1 c2 d0 d1 d2
      replace c0 := cell_below c0 hB
      replace c1 := cell_below c1 hB
      replace c2 := cell_below c2 hB
      replace d0 := cell_below d0 hB
      replace d1 := cell_below d1 hB
      replace d2 := cell_below d2 hB
      generalize 4096 * B + (x.1 : Int) * 128 = y1 at c1 d1
      generalize 4096 * B + (x.2 : Int) * 128 = y2 at c2 d2
      have heq := cur_eq B y1 y2 B y1 y2
      simp only [beq_self_eq_true, Bool.and_self] at heq
      have HB := Lib.hid hB
      clear hB
      have i0 : (0 : Int) ≤ (k : Int) := by omega
      have i1 : (k : Int) < (n : Int) := by omega
      go_wp2
      go_quiet (fail)
      go_wp2
      go_roundw
      case rel => exact ⟨k + 1, by omega, by go_num, Ad.below_drewN HB.out _⟩
      case measure => simp [intOf]; omega
    · have HB := Lib.hid hB
      clear hB
      go_wp2
      go_ret
      exact ⟨rfl, HB.out⟩
end Go.Proofs.YtanccoahpcfbnaaDoor
