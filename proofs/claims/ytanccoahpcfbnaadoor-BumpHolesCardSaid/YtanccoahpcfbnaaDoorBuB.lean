/-
  bump.Take.
-/
import Derived.Test.YtanccoahpcfbnaaDoorBuA
import Derived.Test.YtanccoahpcfbnaaDoorAdE
namespace Go.Proofs.YtanccoahpcfbnaaDoor
open Go.RowKit Go.Lib Go.Shelf Ad
attribute [local go_sem] Oper.semAt_some
set_option linter.unusedSimpArgs false

/-- A size rounded up to granules. -/
def rnd (n : Int) : Int := (n + 8 - 1) / 8 * 8
/-- So many bytes can be taken. -/
def okT (B A L n : Int) : Prop := rightC B A L ∧ (1 ≤ n ∧ n ≤ 131072) ∧ rnd n ≤ roomC B A L
instance (B A L n : Int) : Decidable (okT B A L n) := by unfold okT; infer_instance
theorem rnd_in {n : Int} (h : 1 ≤ n ∧ n ≤ 131072) : 8 ≤ rnd n ∧ rnd n ≤ 131072 ∧ n ≤ rnd n ∧ rnd n < n + 8 ∧ rnd n % 8 = 0 := by unfold rnd; omega
/-- Three blocks of a call of Take. -/
theorem tk3 (B A L : Int) (w W : World) (hb : Below (((w.alloc (.cells #[.int .i64 B, .int .i64 A, .int .i64 L] 23)).alloc (.cells #[.int .i64 0, .int .i64 0, .int .i64 0] 23)).alloc (.cells #[.int .i64 B, .int .i64 A, .int .i64 L, .slice none 0 0] 56)).heap.size (((w.alloc (.cells #[.int .i64 B, .int .i64 A, .int .i64 L] 23)).alloc (.cells #[.int .i64 0, .int .i64 0, .int .i64 0] 23)).alloc (.cells #[.int .i64 B, .int .i64 A, .int .i64 L, .slice none 0 0] 56)) W) :
    Blk W w.heap.size #[.int .i64 B, .int .i64 A, .int .i64 L] 23 ∧ Blk W (w.heap.size + 1) #[.int .i64 0, .int .i64 0, .int .i64 0] 23 ∧ Blk W (w.heap.size + 1 + 1) #[.int .i64 B, .int .i64 A, .int .i64 L, .slice none 0 0] 56 ∧ Below w.heap.size w W := by
  obtain ⟨b0, b1, b2, hB, hs⟩ := blk3 w #[.int .i64 B, .int .i64 A, .int .i64 L] #[.int .i64 0, .int .i64 0, .int .i64 0] #[.int .i64 B, .int .i64 A, .int .i64 L, .slice none 0 0] 23 23 56
  exact ⟨b0.below' hb, b1.below' hb, b2.below' hb, bstep hB hb⟩
theorem room_t (B A L : Int) (w : World) (h : rightC B A L) : Calls Tryd.prog 14 #[.agg #[.int .i64 B, .int .i64 A, .int .i64 L]] w fun e w' => e = .returned (.int .i64 (L - A)) ∧ Below w.heap.size w w' := by
  have := room_any B A L w
  rwa [roomC, if_pos h] at this
theorem must2a (W : World) (a b : Bool) (D : Nat) (hD : D = W.heap.size) :
    Calls Tryd.prog 32 #[.slice (some ⟨D, 0, none⟩) 2 2] (W.alloc (.cells #[.bool a, .bool b] 4)) fun e w' => e = .returned (.bool (a && b)) ∧ W.alloc (.cells #[.bool a, .bool b] 4) = w' := by
  subst hD
  exact must2 W.heap.size a b _ (Blk.new _ _ _)
set_option maxRecDepth 100000 in
set_option maxHeartbeats 1000000 in
theorem take_yes (B A L n : Int) (w : World) (aA aS aR : Addr) (hV : AV w aA aS aR) (h : okT B A L n) :
    Calls Tryd.prog 10 #[.agg #[.int .i64 B, .int .i64 A, .int .i64 L], .int .i64 n] w fun e w' => e = .returned (.tuple #[.agg #[.int .i64 B, .int .i64 (A + rnd n), .int .i64 L], .int .i64 A, .bool true]) ∧ Below w.heap.size w w' := by
  obtain ⟨_, _, _, hB, hs⟩ := blk3 w #[.int .i64 B, .int .i64 A, .int .i64 L] #[.int .i64 0, .int .i64 0, .int .i64 0] #[.int .i64 B, .int .i64 A, .int .i64 L, .slice none 0 0] 23 23 56
  have HRd := Lib.hid (round_yes n (((w.alloc (.cells #[.int .i64 B, .int .i64 A, .int .i64 L] 23)).alloc (.cells #[.int .i64 0, .int .i64 0, .int .i64 0] 23)).alloc (.cells #[.int .i64 B, .int .i64 A, .int .i64 L, .slice none 0 0] 56)) aA aS aR (hV.below hB) h.2.1.1 h.2.1.2)
  obtain ⟨h1, h2, h3⟩ := h
  obtain ⟨k1, k2, k3⟩ := rightC_le h1
  obtain ⟨k4, k5, _⟩ := rnd_in h2
  have hrm : roomC B A L = L - A := by rw [roomC, if_pos h1]
  rw [hrm] at h3
  have HRt := Lib.hid h1
  generalize hg : rnd n = m at HRd h3 k4 k5 ⊢
  rw [show (n + 8 - 1) / 8 * 8 = m from hg] at HRd
  have HRm := Lib.hid hrm
  clear h1 hg hrm
  clear hV hB hs
  go_enter Tryd.func10, Tryd.ntmps10
  go_wp2_with fail
  go_step3
  go_wp2_with fail
  ((with_reducible refine HRd.out.mono ?_))
  rintro e w1 ⟨rfl, hb⟩
  have HB1 := Lib.hid hb
  obtain ⟨b0, b1, b2, hB1⟩ := tk3 B A L w w1 hb
  have c0 : w1.cell? ⟨w.heap.size, 0, none⟩ = some (.int .i64 B) := b0.cell rfl
  have c1 : w1.cell? ⟨w.heap.size, 1, none⟩ = some (.int .i64 A) := b0.cell rfl
  have c2 : w1.cell? ⟨w.heap.size, 2, none⟩ = some (.int .i64 L) := b0.cell rfl
  clear hb b0 b1 b2 hB1 HRd
  go_wp2_with fail
  ((with_reducible refine (right_t B A L w1 HRt.out).mono ?_))
  rintro e w2 ⟨rfl, hb⟩
  have HB2 := Lib.hid (HB1.out.trans (hb.mono HB1.out.size))
  obtain ⟨b0, b1, b2, hB2⟩ := tk3 B A L w w2 HB2.out
  have d0 : w2.cell? ⟨w.heap.size, 0, none⟩ = some (.int .i64 B) := b0.cell rfl
  have d1 : w2.cell? ⟨w.heap.size, 1, none⟩ = some (.int .i64 A) := b0.cell rfl
  have d2 : w2.cell? ⟨w.heap.size, 2, none⟩ = some (.int .i64 L) := b0.cell rfl
  have hl2 := b2.lt
  have HBa := Lib.hid (HB2.out.alloc HB2.out.size (.cells #[.bool true, .bool true] 4))
  obtain ⟨x0, x1, x2, hBx⟩ := tk3 B A L w _ HBa.out
  have f0 : (w2.alloc (.cells #[.bool true, .bool true] 4)).cell? ⟨w.heap.size, 0, none⟩ = some (.int .i64 B) := x0.cell rfl
  have f1 : (w2.alloc (.cells #[.bool true, .bool true] 4)).cell? ⟨w.heap.size, 1, none⟩ = some (.int .i64 A) := x0.cell rfl
  have f2 : (w2.alloc (.cells #[.bool true, .bool true] 4)).cell? ⟨w.heap.size, 2, none⟩ = some (.int .i64 L) := x0.cell rfl
  have X1 := Lib.hid x1
  have X2 := Lib.hid x2
  have HX := Lib.hid hBx
  clear hb b0 b1 b2 hB2 c0 c1 c2 x0 x1 x2 hBx
  go_wp2_with fail
  ((with_reducible refine (must2a w2 _ _ _ rfl).mono ?_))
  rintro e w' ⟨rfl, rfl⟩
  go_wp2_with fail
  ((with_reducible refine (room_t B A L _ HRt.out).mono ?_))
  rintro e w3 ⟨rfl, hb⟩
  have HB3 := Lib.hid (HBa.out.trans (hb.mono HBa.out.size))
  obtain ⟨b0, b1, b2, hB3⟩ := tk3 B A L w w3 HB3.out
  have p0 : w3.cell? ⟨w.heap.size + 1, 0, none⟩ = some (.int .i64 0) := b1.cell rfl
  have q0 := b1.frozen 0
  have p1 : w3.cell? ⟨w.heap.size + 1, 1, none⟩ = some (.int .i64 0) := b1.cell rfl
  have q1 := b1.frozen 1
  have p2 : w3.cell? ⟨w.heap.size + 1, 2, none⟩ = some (.int .i64 0) := b1.cell rfl
  have q2 := b1.frozen 2
  have r0 : w3.cell? ⟨w.heap.size + 1 + 1, 0, none⟩ = some (.int .i64 B) := b2.cell rfl
  have r1 : w3.cell? ⟨w.heap.size + 1 + 1, 1, none⟩ = some (.int .i64 A) := b2.cell rfl
  have r2 : w3.cell? ⟨w.heap.size + 1 + 1, 2, none⟩ = some (.int .i64 L) := b2.cell rfl
  have r3 : w3.cell? ⟨w.heap.size + 1 + 1, 3, none⟩ = some (.slice none 0 0) := b2.cell rfl
  have r9 := b2.frozen 1
  have HE := Lib.hid hB3
  clear hb b0 b1 b2 hB3 d0 d1 d2 f0 f1 f2
  go_wp2
  try rw [Exit.noGoto_ret]
  refine bodyPost_ret (v := .tuple #[.agg #[.int .i64 B, .int .i64 (A + m), .int .i64 L], .int .i64 A, .bool true]) (by simp [results, Tryd.results10, go_sem, p0, p1, p2, r0, r1, r2]) rfl ⟨rfl, ?_⟩
  repeat (first | (with_reducible exact HE.out) | refine Below.setCell ?_ (by simp; try omega) _)
set_option maxRecDepth 100000 in
set_option maxHeartbeats 1000000 in
theorem take_noR (B A L n : Int) (w : World) (aA aS aR : Addr) (hV : AV w aA aS aR) (h : ¬ rightC B A L) (h2 : 1 ≤ n ∧ n ≤ 131072) :
    Calls Tryd.prog 10 #[.agg #[.int .i64 B, .int .i64 A, .int .i64 L], .int .i64 n] w fun e w' => e = .returned (.tuple #[.agg #[.int .i64 0, .int .i64 0, .int .i64 0], .int .i64 0, .bool false]) ∧ Below w.heap.size w w' := by
  obtain ⟨_, _, _, hB, hs⟩ := blk3 w #[.int .i64 B, .int .i64 A, .int .i64 L] #[.int .i64 0, .int .i64 0, .int .i64 0] #[.int .i64 B, .int .i64 A, .int .i64 L, .slice none 0 0] 23 23 56
  have HRd := Lib.hid (round_yes n (((w.alloc (.cells #[.int .i64 B, .int .i64 A, .int .i64 L] 23)).alloc (.cells #[.int .i64 0, .int .i64 0, .int .i64 0] 23)).alloc (.cells #[.int .i64 B, .int .i64 A, .int .i64 L, .slice none 0 0] 56)) aA aS aR (hV.below hB) h2.1 h2.2)
  have HRt := Lib.hid h
  clear h
  clear hV hB hs
  go_enter Tryd.func10, Tryd.ntmps10
  go_wp2_with fail
  refine wp_scope_goto 0 rfl ?_
  go_wp2_with fail
  ((with_reducible refine HRd.out.mono ?_))
  rintro e w1 ⟨rfl, hb⟩
  have HB1 := Lib.hid hb
  obtain ⟨b0, b1, b2, hB1⟩ := tk3 B A L w w1 hb
  have c0 : w1.cell? ⟨w.heap.size, 0, none⟩ = some (.int .i64 B) := b0.cell rfl
  have c1 : w1.cell? ⟨w.heap.size, 1, none⟩ = some (.int .i64 A) := b0.cell rfl
  have c2 : w1.cell? ⟨w.heap.size, 2, none⟩ = some (.int .i64 L) := b0.cell rfl
  clear hb b0 b1 b2 hB1 HRd
  go_wp2_with fail
  ((with_reducible refine (right_f B A L w1 HRt.out).mono ?_))
  rintro e w2 ⟨rfl, hb⟩
  have HB2 := Lib.hid (HB1.out.trans (hb.mono HB1.out.size))
  obtain ⟨b0, b1, b2, hB2⟩ := tk3 B A L w w2 HB2.out
  have d0 : w2.cell? ⟨w.heap.size, 0, none⟩ = some (.int .i64 B) := b0.cell rfl
  have d1 : w2.cell? ⟨w.heap.size, 1, none⟩ = some (.int .i64 A) := b0.cell rfl
  have d2 : w2.cell? ⟨w.heap.size, 2, none⟩ = some (.int .i64 L) := b0.cell rfl
  have hl2 := b2.lt
  have HBa := Lib.hid (HB2.out.alloc HB2.out.size (.cells #[.bool false, .bool true] 4))
  obtain ⟨x0, x1, x2, hBx⟩ := tk3 B A L w _ HBa.out
  have f0 : (w2.alloc (.cells #[.bool false, .bool true] 4)).cell? ⟨w.heap.size, 0, none⟩ = some (.int .i64 B) := x0.cell rfl
  have f1 : (w2.alloc (.cells #[.bool false, .bool true] 4)).cell? ⟨w.heap.size, 1, none⟩ = some (.int .i64 A) := x0.cell rfl
  have f2 : (w2.alloc (.cells #[.bool false, .bool true] 4)).cell? ⟨w.heap.size, 2, none⟩ = some (.int .i64 L) := x0.cell rfl
  have X1 := Lib.hid x1
  have X2 := Lib.hid x2
  have HX := Lib.hid hBx
  clear hb b0 b1 b2 hB2 c0 c1 c2 x0 x1 x2 hBx
  go_wp2_with fail
  ((with_reducible refine (must2a w2 _ _ _ rfl).mono ?_))
  rintro e w' ⟨rfl, rfl⟩
  have b1 := X1.out
  have b2 := X2.out
  have hB3 := HX.out
  generalize w2.alloc (.cells #[.bool false, .bool true] 4) = w3 at b1 b2 hB3 f0 f1 f2 ⊢
  have p0 : w3.cell? ⟨w.heap.size + 1, 0, none⟩ = some (.int .i64 0) := b1.cell rfl
  have q0 := b1.frozen 0
  have p1 : w3.cell? ⟨w.heap.size + 1, 1, none⟩ = some (.int .i64 0) := b1.cell rfl
  have q1 := b1.frozen 1
  have p2 : w3.cell? ⟨w.heap.size + 1, 2, none⟩ = some (.int .i64 0) := b1.cell rfl
  have q2 := b1.frozen 2
  have HE := Lib.hid hB3
  clear b1 b2 hB3 d0 d1 d2
  go_wp2
  go_step3
  refine ⟨rfl, ?_⟩
  dsimp only
  go_wp2
  try rw [Exit.noGoto_ret]
  refine bodyPost_ret (v := .tuple #[.agg #[.int .i64 0, .int .i64 0, .int .i64 0], .int .i64 0, .bool false]) (by simp [results, Tryd.results10, go_sem, p0, p1, p2]) rfl ⟨rfl, ?_⟩
  repeat (first | (with_reducible exact HE.out) | refine Below.setCell ?_ (by simp; try omega) _)
set_option maxRecDepth 100000 in
set_option maxHeartbeats 1000000 in
theorem take_noRn (B A L n : Int) (w : World) (aA aS aR : Addr) (hV : AV w aA aS aR) (h : ¬ rightC B A L) (h2 : n < 1 ∨ 131072 < n) :
    Calls Tryd.prog 10 #[.agg #[.int .i64 B, .int .i64 A, .int .i64 L], .int .i64 n] w fun e w' => e = .returned (.tuple #[.agg #[.int .i64 0, .int .i64 0, .int .i64 0], .int .i64 0, .bool false]) ∧ Below w.heap.size w w' := by
  obtain ⟨_, _, _, hB, hs⟩ := blk3 w #[.int .i64 B, .int .i64 A, .int .i64 L] #[.int .i64 0, .int .i64 0, .int .i64 0] #[.int .i64 B, .int .i64 A, .int .i64 L, .slice none 0 0] 23 23 56
  have HRd := Lib.hid (round_no n (((w.alloc (.cells #[.int .i64 B, .int .i64 A, .int .i64 L] 23)).alloc (.cells #[.int .i64 0, .int .i64 0, .int .i64 0] 23)).alloc (.cells #[.int .i64 B, .int .i64 A, .int .i64 L, .slice none 0 0] 56)) aA aS aR (hV.below hB) h2)
  have HRt := Lib.hid h
  clear h
  clear hV hB hs
  go_enter Tryd.func10, Tryd.ntmps10
  go_wp2_with fail
  refine wp_scope_goto 0 rfl ?_
  go_wp2_with fail
  ((with_reducible refine HRd.out.mono ?_))
  rintro e w1 ⟨rfl, hb⟩
  have HB1 := Lib.hid hb
  obtain ⟨b0, b1, b2, hB1⟩ := tk3 B A L w w1 hb
  have c0 : w1.cell? ⟨w.heap.size, 0, none⟩ = some (.int .i64 B) := b0.cell rfl
  have c1 : w1.cell? ⟨w.heap.size, 1, none⟩ = some (.int .i64 A) := b0.cell rfl
  have c2 : w1.cell? ⟨w.heap.size, 2, none⟩ = some (.int .i64 L) := b0.cell rfl
  clear hb b0 b1 b2 hB1 HRd
  go_wp2_with fail
  ((with_reducible refine (right_f B A L w1 HRt.out).mono ?_))
  rintro e w2 ⟨rfl, hb⟩
  have HB2 := Lib.hid (HB1.out.trans (hb.mono HB1.out.size))
  obtain ⟨b0, b1, b2, hB2⟩ := tk3 B A L w w2 HB2.out
  have d0 : w2.cell? ⟨w.heap.size, 0, none⟩ = some (.int .i64 B) := b0.cell rfl
  have d1 : w2.cell? ⟨w.heap.size, 1, none⟩ = some (.int .i64 A) := b0.cell rfl
  have d2 : w2.cell? ⟨w.heap.size, 2, none⟩ = some (.int .i64 L) := b0.cell rfl
  have hl2 := b2.lt
  have HBa := Lib.hid (HB2.out.alloc HB2.out.size (.cells #[.bool false, .bool false] 4))
  obtain ⟨x0, x1, x2, hBx⟩ := tk3 B A L w _ HBa.out
  have f0 : (w2.alloc (.cells #[.bool false, .bool false] 4)).cell? ⟨w.heap.size, 0, none⟩ = some (.int .i64 B) := x0.cell rfl
  have f1 : (w2.alloc (.cells #[.bool false, .bool false] 4)).cell? ⟨w.heap.size, 1, none⟩ = some (.int .i64 A) := x0.cell rfl
  have f2 : (w2.alloc (.cells #[.bool false, .bool false] 4)).cell? ⟨w.heap.size, 2, none⟩ = some (.int .i64 L) := x0.cell rfl
  have X1 := Lib.hid x1
  have X2 := Lib.hid x2
  have HX := Lib.hid hBx
  clear hb b0 b1 b2 hB2 c0 c1 c2 x0 x1 x2 hBx
  go_wp2_with fail
  ((with_reducible refine (must2a w2 _ _ _ rfl).mono ?_))
  rintro e w' ⟨rfl, rfl⟩
  have b1 := X1.out
  have b2 := X2.out
  have hB3 := HX.out
  generalize w2.alloc (.cells #[.bool false, .bool false] 4) = w3 at b1 b2 hB3 f0 f1 f2 ⊢
  have p0 : w3.cell? ⟨w.heap.size + 1, 0, none⟩ = some (.int .i64 0) := b1.cell rfl
  have q0 := b1.frozen 0
  have p1 : w3.cell? ⟨w.heap.size + 1, 1, none⟩ = some (.int .i64 0) := b1.cell rfl
  have q1 := b1.frozen 1
  have p2 : w3.cell? ⟨w.heap.size + 1, 2, none⟩ = some (.int .i64 0) := b1.cell rfl
  have q2 := b1.frozen 2
  have HE := Lib.hid hB3
  clear b1 b2 hB3 d0 d1 d2
  go_wp2
  go_step3
  refine ⟨rfl, ?_⟩
  dsimp only
  go_wp2
  try rw [Exit.noGoto_ret]
  refine bodyPost_ret (v := .tuple #[.agg #[.int .i64 0, .int .i64 0, .int .i64 0], .int .i64 0, .bool false]) (by simp [results, Tryd.results10, go_sem, p0, p1, p2]) rfl ⟨rfl, ?_⟩
  repeat (first | (with_reducible exact HE.out) | refine Below.setCell ?_ (by simp; try omega) _)
set_option maxRecDepth 100000 in
set_option maxHeartbeats 1000000 in
theorem take_noN (B A L n : Int) (w : World) (aA aS aR : Addr) (hV : AV w aA aS aR) (h : rightC B A L) (h2 : n < 1 ∨ 131072 < n) :
    Calls Tryd.prog 10 #[.agg #[.int .i64 B, .int .i64 A, .int .i64 L], .int .i64 n] w fun e w' => e = .returned (.tuple #[.agg #[.int .i64 0, .int .i64 0, .int .i64 0], .int .i64 0, .bool false]) ∧ Below w.heap.size w w' := by
  obtain ⟨_, _, _, hB, hs⟩ := blk3 w #[.int .i64 B, .int .i64 A, .int .i64 L] #[.int .i64 0, .int .i64 0, .int .i64 0] #[.int .i64 B, .int .i64 A, .int .i64 L, .slice none 0 0] 23 23 56
  have HRd := Lib.hid (round_no n (((w.alloc (.cells #[.int .i64 B, .int .i64 A, .int .i64 L] 23)).alloc (.cells #[.int .i64 0, .int .i64 0, .int .i64 0] 23)).alloc (.cells #[.int .i64 B, .int .i64 A, .int .i64 L, .slice none 0 0] 56)) aA aS aR (hV.below hB) h2)
  have HRt := Lib.hid h
  clear h
  clear hV hB hs
  go_enter Tryd.func10, Tryd.ntmps10
  go_wp2_with fail
  refine wp_scope_goto 0 rfl ?_
  go_wp2_with fail
  ((with_reducible refine HRd.out.mono ?_))
  rintro e w1 ⟨rfl, hb⟩
  have HB1 := Lib.hid hb
  obtain ⟨b0, b1, b2, hB1⟩ := tk3 B A L w w1 hb
  have c0 : w1.cell? ⟨w.heap.size, 0, none⟩ = some (.int .i64 B) := b0.cell rfl
  have c1 : w1.cell? ⟨w.heap.size, 1, none⟩ = some (.int .i64 A) := b0.cell rfl
  have c2 : w1.cell? ⟨w.heap.size, 2, none⟩ = some (.int .i64 L) := b0.cell rfl
  clear hb b0 b1 b2 hB1 HRd
  go_wp2_with fail
  ((with_reducible refine (right_t B A L w1 HRt.out).mono ?_))
  rintro e w2 ⟨rfl, hb⟩
  have HB2 := Lib.hid (HB1.out.trans (hb.mono HB1.out.size))
  obtain ⟨b0, b1, b2, hB2⟩ := tk3 B A L w w2 HB2.out
  have d0 : w2.cell? ⟨w.heap.size, 0, none⟩ = some (.int .i64 B) := b0.cell rfl
  have d1 : w2.cell? ⟨w.heap.size, 1, none⟩ = some (.int .i64 A) := b0.cell rfl
  have d2 : w2.cell? ⟨w.heap.size, 2, none⟩ = some (.int .i64 L) := b0.cell rfl
  have hl2 := b2.lt
  have HBa := Lib.hid (HB2.out.alloc HB2.out.size (.cells #[.bool true, .bool false] 4))
  obtain ⟨x0, x1, x2, hBx⟩ := tk3 B A L w _ HBa.out
  have f0 : (w2.alloc (.cells #[.bool true, .bool false] 4)).cell? ⟨w.heap.size, 0, none⟩ = some (.int .i64 B) := x0.cell rfl
  have f1 : (w2.alloc (.cells #[.bool true, .bool false] 4)).cell? ⟨w.heap.size, 1, none⟩ = some (.int .i64 A) := x0.cell rfl
  have f2 : (w2.alloc (.cells #[.bool true, .bool false] 4)).cell? ⟨w.heap.size, 2, none⟩ = some (.int .i64 L) := x0.cell rfl
  have X1 := Lib.hid x1
  have X2 := Lib.hid x2
  have HX := Lib.hid hBx
  clear hb b0 b1 b2 hB2 c0 c1 c2 x0 x1 x2 hBx
  go_wp2_with fail
  ((with_reducible refine (must2a w2 _ _ _ rfl).mono ?_))
  rintro e w' ⟨rfl, rfl⟩
  have b1 := X1.out
  have b2 := X2.out
  have hB3 := HX.out
  generalize w2.alloc (.cells #[.bool true, .bool false] 4) = w3 at b1 b2 hB3 f0 f1 f2 ⊢
  have p0 : w3.cell? ⟨w.heap.size + 1, 0, none⟩ = some (.int .i64 0) := b1.cell rfl
  have q0 := b1.frozen 0
  have p1 : w3.cell? ⟨w.heap.size + 1, 1, none⟩ = some (.int .i64 0) := b1.cell rfl
  have q1 := b1.frozen 1
  have p2 : w3.cell? ⟨w.heap.size + 1, 2, none⟩ = some (.int .i64 0) := b1.cell rfl
  have q2 := b1.frozen 2
  have HE := Lib.hid hB3
  clear b1 b2 hB3 d0 d1 d2
  go_wp2
  go_step3
  refine ⟨rfl, ?_⟩
  dsimp only
  go_wp2
  try rw [Exit.noGoto_ret]
  refine bodyPost_ret (v := .tuple #[.agg #[.int .i64 0, .int .i64 0, .int .i64 0], .int .i64 0, .bool false]) (by simp [results, Tryd.results10, go_sem, p0, p1, p2]) rfl ⟨rfl, ?_⟩
  repeat (first | (with_reducible exact HE.out) | refine Below.setCell ?_ (by simp; try omega) _)
set_option maxRecDepth 100000 in
set_option maxHeartbeats 1000000 in
theorem take_noM (B A L n : Int) (w : World) (aA aS aR : Addr) (hV : AV w aA aS aR) (h1 : rightC B A L) (h2 : 1 ≤ n ∧ n ≤ 131072) (h3 : roomC B A L < rnd n) :
    Calls Tryd.prog 10 #[.agg #[.int .i64 B, .int .i64 A, .int .i64 L], .int .i64 n] w fun e w' => e = .returned (.tuple #[.agg #[.int .i64 0, .int .i64 0, .int .i64 0], .int .i64 0, .bool false]) ∧ Below w.heap.size w w' := by
  obtain ⟨_, _, _, hB, hs⟩ := blk3 w #[.int .i64 B, .int .i64 A, .int .i64 L] #[.int .i64 0, .int .i64 0, .int .i64 0] #[.int .i64 B, .int .i64 A, .int .i64 L, .slice none 0 0] 23 23 56
  have HRd := Lib.hid (round_yes n (((w.alloc (.cells #[.int .i64 B, .int .i64 A, .int .i64 L] 23)).alloc (.cells #[.int .i64 0, .int .i64 0, .int .i64 0] 23)).alloc (.cells #[.int .i64 B, .int .i64 A, .int .i64 L, .slice none 0 0] 56)) aA aS aR (hV.below hB) h2.1 h2.2)
  obtain ⟨k1, k2, k3⟩ := rightC_le h1
  obtain ⟨k4, k5, _⟩ := rnd_in h2
  have HRt := Lib.hid h1
  generalize hg : rnd n = m at HRd h3 k4 k5
  rw [show (n + 8 - 1) / 8 * 8 = m from hg] at HRd
  clear h1 hg
  clear hV hB hs
  go_enter Tryd.func10, Tryd.ntmps10
  go_wp2_with fail
  refine wp_scope_goto 0 rfl ?_
  go_wp2_with fail
  ((with_reducible refine HRd.out.mono ?_))
  rintro e w1 ⟨rfl, hb⟩
  have HB1 := Lib.hid hb
  obtain ⟨b0, b1, b2, hB1⟩ := tk3 B A L w w1 hb
  have c0 : w1.cell? ⟨w.heap.size, 0, none⟩ = some (.int .i64 B) := b0.cell rfl
  have c1 : w1.cell? ⟨w.heap.size, 1, none⟩ = some (.int .i64 A) := b0.cell rfl
  have c2 : w1.cell? ⟨w.heap.size, 2, none⟩ = some (.int .i64 L) := b0.cell rfl
  clear hb b0 b1 b2 hB1 HRd
  go_wp2_with fail
  ((with_reducible refine (right_t B A L w1 HRt.out).mono ?_))
  rintro e w2 ⟨rfl, hb⟩
  have HB2 := Lib.hid (HB1.out.trans (hb.mono HB1.out.size))
  obtain ⟨b0, b1, b2, hB2⟩ := tk3 B A L w w2 HB2.out
  have d0 : w2.cell? ⟨w.heap.size, 0, none⟩ = some (.int .i64 B) := b0.cell rfl
  have d1 : w2.cell? ⟨w.heap.size, 1, none⟩ = some (.int .i64 A) := b0.cell rfl
  have d2 : w2.cell? ⟨w.heap.size, 2, none⟩ = some (.int .i64 L) := b0.cell rfl
  have hl2 := b2.lt
  have HBa := Lib.hid (HB2.out.alloc HB2.out.size (.cells #[.bool true, .bool true] 4))
  obtain ⟨x0, x1, x2, hBx⟩ := tk3 B A L w _ HBa.out
  have f0 : (w2.alloc (.cells #[.bool true, .bool true] 4)).cell? ⟨w.heap.size, 0, none⟩ = some (.int .i64 B) := x0.cell rfl
  have f1 : (w2.alloc (.cells #[.bool true, .bool true] 4)).cell? ⟨w.heap.size, 1, none⟩ = some (.int .i64 A) := x0.cell rfl
  have f2 : (w2.alloc (.cells #[.bool true, .bool true] 4)).cell? ⟨w.heap.size, 2, none⟩ = some (.int .i64 L) := x0.cell rfl
  have X1 := Lib.hid x1
  have X2 := Lib.hid x2
  have HX := Lib.hid hBx
  clear hb b0 b1 b2 hB2 c0 c1 c2 x0 x1 x2 hBx
  go_wp2_with fail
  ((with_reducible refine (must2a w2 _ _ _ rfl).mono ?_))
  rintro e w' ⟨rfl, rfl⟩
  go_wp2_with fail
  ((with_reducible refine (room_any B A L _).mono ?_))
  rintro e w3 ⟨rfl, hb⟩
  have HB3 := Lib.hid (HBa.out.trans (hb.mono HBa.out.size))
  obtain ⟨b0, b1, b2, hB3⟩ := tk3 B A L w w3 HB3.out
  have p0 : w3.cell? ⟨w.heap.size + 1, 0, none⟩ = some (.int .i64 0) := b1.cell rfl
  have q0 := b1.frozen 0
  have p1 : w3.cell? ⟨w.heap.size + 1, 1, none⟩ = some (.int .i64 0) := b1.cell rfl
  have q1 := b1.frozen 1
  have p2 : w3.cell? ⟨w.heap.size + 1, 2, none⟩ = some (.int .i64 0) := b1.cell rfl
  have q2 := b1.frozen 2
  have HE := Lib.hid hB3
  clear hb b0 b1 b2 hB3 d0 d1 d2 f0 f1 f2
  go_wp2
  go_step3
  refine ⟨rfl, ?_⟩
  dsimp only
  go_wp2
  try rw [Exit.noGoto_ret]
  refine bodyPost_ret (v := .tuple #[.agg #[.int .i64 0, .int .i64 0, .int .i64 0], .int .i64 0, .bool false]) (by simp [results, Tryd.results10, go_sem, p0, p1, p2]) rfl ⟨rfl, ?_⟩
  repeat (first | (with_reducible exact HE.out) | refine Below.setCell ?_ (by simp; try omega) _)
theorem take_no (B A L n : Int) (w : World) (aA aS aR : Addr) (hV : AV w aA aS aR) (h : ¬ okT B A L n) :
    Calls Tryd.prog 10 #[.agg #[.int .i64 B, .int .i64 A, .int .i64 L], .int .i64 n] w fun e w' => e = .returned (.tuple #[.agg #[.int .i64 0, .int .i64 0, .int .i64 0], .int .i64 0, .bool false]) ∧ Below w.heap.size w w' := by
  by_cases h1 : rightC B A L
  · by_cases h2 : 1 ≤ n ∧ n ≤ 131072
    · exact take_noM B A L n w aA aS aR hV h1 h2 (Int.not_le.1 (fun k => h ⟨h1, h2, k⟩))
    · exact take_noN B A L n w aA aS aR hV h1 (by omega)
  · by_cases h2 : 1 ≤ n ∧ n ≤ 131072
    · exact take_noR B A L n w aA aS aR hV h1 h2
    · exact take_noRn B A L n w aA aS aR hV h1 (by omega)
end Go.Proofs.YtanccoahpcfbnaaDoor
