/-
  The cursors that come next, and the holes of a table: plain.
-/
import Derived.Test.YtanccoahpcfbnaaDoorBuJ
import Derived.Test.YtanccoahpcfbnaaDoorHoleLinePlain
namespace Go.Proofs.YtanccoahpcfbnaaDoor
open Go.RowKit Go.Lib Go.Shelf Ad
set_option linter.unusedVariables false

/-- hole.Next on a table. -/
abbrev FT (q : Nat → Bool) : Int → Option (Nat × Nat) := fun f => (holesZ q (line0 f)).head?
theorem holes_drop (q : Nat → Bool) (j : Nat) : ∀ i x, (holesZ q i)[j]? = some x → holesZ q x.2 = (holesZ q i).drop (j + 1) := by
  induction j with
  | zero =>
    intro i x h
    cases hh : holesZ q i with
    | nil => rw [hh] at h; simp at h
    | cons y rest =>
      rw [hh] at h
      simp at h
      subst h
      simpa using holesZ_next hh
  | succ j ih =>
    intro i x h
    cases hh : holesZ q i with
    | nil => rw [hh] at h; simp at h
    | cons y rest =>
      have hr := holesZ_next hh
      rw [hh, List.getElem?_cons_succ, ← hr] at h
      rw [ih y.2 x h, hr]
      simp
theorem mk_in {B : Int} (hB : 0 ≤ B ∧ B < 32) {x : Nat × Nat} (hx : x.1 < x.2 ∧ x.2 ≤ 32) : inBk (mkC B x).1 (mkC B x).2.1 (mkC B x).2.2 := by
  unfold inBk mkC
  dsimp only
  omega
theorem line_mk (B : Int) (x : Nat × Nat) : lineC (mkC B x).1 (mkC B x).2.2 = (x.2 : Int) := by
  unfold lineC mkC
  dsimp only
  omega
theorem next_mk (q : Nat → Bool) {B : Int} (hB : 0 ≤ B ∧ B < 32) {x : Nat × Nat} (hx : x.1 < x.2 ∧ x.2 ≤ 32) : nextC (FT q) (mkC B x) = (holesZ q x.2).head?.map (mkC B) := by
  rw [nextC, if_pos (mk_in hB hx), openC, if_pos (show 0 ≤ (mkC B x).1 ∧ (mkC B x).1 < 32 from hB), line_mk]
  rfl
theorem chn_of (q : Nat → Bool) (B : Int) (hB : 0 ≤ B ∧ B < 32) (c0 : Cu) (i : Nat) (h : nextC (FT q) c0 = (holesZ q i).head?.map (mkC B)) : Chn (FT q) B c0 (holesZ q i) := {
  first := h
  next := fun j x hx => by
    have hb := holesZ_bounds q 32 i (by omega) x (List.mem_of_getElem? hx)
    rw [next_mk q hB hb, holes_drop q j i x hx, List.head?_drop]
  up := fun j x y hx hy => by
    have h1 := holes_drop q j i x hx
    have h2 : (holesZ q x.2)[0]? = some y := by rw [h1, List.getElem?_drop]; simpa using hy
    cases hh : holesZ q x.2 with
    | nil => rw [hh] at h2; simp at h2
    | cons z rest =>
      rw [hh] at h2
      simp at h2
      subst h2
      have := holesZ_cons q 32 x.2 (by omega) z rest hh
      omega
  top := fun x hx => (holesZ_bounds q 32 i (by omega) x hx).2
  len := by have := holesZ_len q 32 i (by omega); omega }
theorem chn_nil (F : Int → Option (Nat × Nat)) (B : Int) (c0 : Cu) (h : nextC F c0 = none) : Chn F B c0 [] := {
  first := h
  next := fun j x hx => by simp at hx
  up := fun j x y hx => by simp at hx
  top := fun x hx => by simp at hx
  len := by simp }
/-- Behind any cursor, of a table. -/
theorem chn_tab (q : Nat → Bool) (c0 : Cu) : ∃ B hs, Chn (FT q) B c0 hs ∧ (hs ≠ [] → 0 ≤ B ∧ B < 32) := by
  by_cases h : inBk c0.1 c0.2.1 c0.2.2
  · have hB : 0 ≤ c0.1 ∧ c0.1 < 32 := ⟨h.1, h.2.1⟩
    refine ⟨c0.1, _, chn_of q c0.1 hB c0 (line0 (lineC c0.1 c0.2.2)) ?_, fun _ => hB⟩
    rw [nextC, if_pos h, openC, if_pos hB]
  · exact ⟨0, [], chn_nil _ 0 c0 (by rw [nextC, if_neg h]), fun h => absurd rfl h⟩
/-- Behind the cursor over a table's first hole. -/
theorem chn_first (q : Nat → Bool) (B : Int) (hB : 0 ≤ B ∧ B < 32) (x : Nat × Nat) (rest : List (Nat × Nat)) (i : Nat) (h : holesZ q i = x :: rest) : Chn (FT q) B (mkC B x) rest := by
  have hb := holesZ_bounds q 32 i (by omega) x (by rw [h]; simp)
  have hr := holesZ_next h
  rw [← hr]
  exact chn_of q B hB (mkC B x) x.2 (next_mk q hB hb)
/-- A table has at most sixteen holes. -/
theorem holes_few (q : Nat → Bool) (n : Nat) : ∀ i, 32 - i ≤ n → 2 * (holesZ q i).length ≤ 33 - i := by
  induction n with
  | zero => intro i h; rw [holesZ_end q i (by omega)]; simp
  | succ n ih =>
    intro i h
    cases hh : holesZ q i with
    | nil => simp
    | cons x rest =>
      obtain ⟨h1, h2, h3, h4, h5, h6, h7⟩ := holesZ_cons q 32 i (by omega) x rest hh
      rw [← h7]
      rw [List.length_cons]
      rcases Nat.lt_or_ge x.2 32 with h8 | h8
      · have h9 := holesZ_kept q x.2 h8 (h6 h8)
        rw [h9]
        have := ih (x.2 + 1) (by omega)
        omega
      · rw [holesZ_end q x.2 h8]
        simp
        omega
/-- The rooms of cursors, added up. -/
def roomS (ps : List (Nat × Nat)) : Int := (ps.map fun p => ((p.2 : Int) - (p.1 : Int)) * 128).sum
theorem roomS_take (ps : List (Nat × Nat)) (k : Nat) (x : Nat × Nat) (h : ps[k]? = some x) : roomS (ps.take (k + 1)) = roomS (ps.take k) + ((x.2 : Int) - (x.1 : Int)) * 128 := by
  obtain ⟨h1, h2⟩ := List.getElem?_eq_some_iff.1 h
  rw [List.take_succ_eq_append_getElem h1, h2]
  simp [roomS]
theorem roomS_sum (ps : List (Nat × Nat)) (h : ∀ x ∈ ps, x.1 < x.2 ∧ x.2 ≤ 32) : roomS ps = 128 * (sumH ps : Int) := by
  induction ps with
  | nil => rfl
  | cons x r ih =>
    have hx := h x (by simp)
    have := ih (fun y hy => h y (by simp [hy]))
    simp only [roomS, sumH, List.map_cons, List.sum_cons] at this ⊢
    rw [this]
    omega
theorem roomS_le (ps : List (Nat × Nat)) (h : ∀ x ∈ ps, x.1 < x.2 ∧ x.2 ≤ 32) : 0 ≤ roomS ps ∧ roomS ps ≤ 4096 * (ps.length : Int) := by
  induction ps with
  | nil => simp [roomS]
  | cons x r ih =>
    have hx := h x (by simp)
    have := ih (fun y hy => h y (by simp [hy]))
    simp only [roomS, List.map_cons, List.sum_cons, List.length_cons] at this ⊢
    omega
/-- A cursor of a list, in memory. -/
theorem cur_cells {W : World} {base : Nat} {q : Option Addr} {k c : Nat} {B : Int} {hs : List (Nat × Nat)} (h : W.ownsRow base 23 3 (.slice q k c) k (cvals B hs)) (j : Nat) (x : Nat × Nat) (hx : hs[j]? = some x) :
    ∃ b, q = some ⟨b, 0, none⟩ ∧ base ≤ b ∧ W.cell? ⟨b, j * 3, none⟩ = some (.int .i64 B) ∧ W.cell? ⟨b, j * 3 + 1, none⟩ = some (.int .i64 (4096 * B + (x.1 : Int) * 128)) ∧ W.cell? ⟨b, j * 3 + 2, none⟩ = some (.int .i64 (4096 * B + (x.2 : Int) * 128)) := by
  have hlen : ∀ l : List (Nat × Nat), (cvals B l).length = l.length * 3 := fun l => by
    induction l with
    | nil => rfl
    | cons y l ih => simp only [cvals, List.flatMap_cons, List.length_append, List.length_cons, List.length_nil] at ih ⊢; rw [ih]; omega
  have hget : ∀ t, t < 3 → (cvals B hs)[j * 3 + t]? = [Value.int .i64 B, .int .i64 (4096 * B + (x.1 : Int) * 128), .int .i64 (4096 * B + (x.2 : Int) * 128)][t]? := fun t ht => by
    have hj := (List.getElem?_eq_some_iff.1 hx).1
    have e1 : cvals B hs = cvals B (hs.take (j + 1)) ++ cvals B (hs.drop (j + 1)) := by
      unfold cvals
      rw [← List.flatMap_append, List.take_append_drop]
    rw [e1, cvals_snoc B hs j x hx]
    have hl := hlen (hs.take j)
    rw [List.length_take, Nat.min_eq_left (by omega)] at hl
    rw [List.getElem?_append_left (by rw [List.length_append, hl]; simp; omega), List.getElem?_append_right (by omega), hl]
    congr 1
    omega
  rcases h.2 with ⟨h1, h0⟩ | ⟨g, cap, cur, hv, hg, hb, hr, hc, hl, ht⟩
  · exfalso
    have h3 := (List.getElem?_eq_some_iff.1 hx).1
    have h4 := hlen hs
    have h5 := h.1
    omega
  · simp at hv
    obtain ⟨rfl, _⟩ := hv
    have hcell : ∀ t, t < 3 → ∀ v, [Value.int .i64 B, .int .i64 (4096 * B + (x.1 : Int) * 128), .int .i64 (4096 * B + (x.2 : Int) * 128)][t]? = some v → W.cell? ⟨g, j * 3 + t, none⟩ = some v := fun t ht' v hv' => by
      have h5 := hget t ht'
      rw [hv', ← ht, List.getElem?_take] at h5
      split at h5
      · exact Blk.cell (show Blk W g cur _ from hb) (by simpa using h5)
      · cases h5
    exact ⟨g, rfl, hg, hcell 0 (by omega) _ rfl, hcell 1 (by omega) _ rfl, hcell 2 (by omega) _ rfl⟩
end Go.Proofs.YtanccoahpcfbnaaDoor
