/-
  Sums over holes: their lengths, the longest one, how many lines are free. No program in sight but for the kept lines' list.
-/
import Derived.Test.YtgjhdjfjfmbejaaDoorHoleM
import Derived.Test.YtgjhdjfjfmbejaaDoorHoleLinePlain
namespace Go.Proofs.YtgjhdjfjfmbejaaDoor

/-- The sum of n times how many holes have length n, for n up to m. -/
def sumTo (ps : List (Nat × Nat)) : Nat → Nat
  | 0 => 0
  | m + 1 => sumTo ps m + (m + 1) * cntH ps (m + 1)
/-- The greatest length up to m that a hole has. -/
def mostTo (ps : List (Nat × Nat)) : Nat → Nat
  | 0 => 0
  | m + 1 => if 0 < cntH ps (m + 1) then m + 1 else mostTo ps m
theorem cntH_cons (p : Nat × Nat) (ps : List (Nat × Nat)) (n : Nat) : cntH (p :: ps) n = cntH ps n + (if p.2 - p.1 = n then 1 else 0) := by
  simp only [cntH, List.countP_cons, beq_iff_eq]
theorem sumTo_cons (p : Nat × Nat) (ps : List (Nat × Nat)) (m : Nat) : sumTo (p :: ps) m = sumTo ps m + (if 1 ≤ p.2 - p.1 ∧ p.2 - p.1 ≤ m then p.2 - p.1 else 0) := by
  induction m with
  | zero => rw [if_neg (by omega)]; rfl
  | succ m ih =>
    simp only [sumTo]
    rw [ih, cntH_cons, Nat.mul_add]
    by_cases h : p.2 - p.1 = m + 1
    · rw [if_pos h, if_neg (by omega), if_pos (by omega), Nat.mul_one, h]; omega
    · rw [if_neg h, Nat.mul_zero]
      by_cases h2 : 1 ≤ p.2 - p.1 ∧ p.2 - p.1 ≤ m
      · rw [if_pos h2, if_pos (by omega)]; omega
      · rw [if_neg h2, if_neg (by omega)]; omega
theorem sumTo_nil (m : Nat) : sumTo [] m = 0 := by
  induction m with
  | zero => rfl
  | succ m ih => simp [sumTo, ih, cntH]
theorem sumTo_all (ps : List (Nat × Nat)) (h : ∀ x ∈ ps, x.1 < x.2 ∧ x.2 ≤ 32) : sumTo ps 32 = sumH ps := by
  induction ps with
  | nil => rw [sumTo_nil]; rfl
  | cons p ps ih =>
    have hp := h p List.mem_cons_self
    rw [sumTo_cons, ih (fun x hx => h x (List.mem_cons_of_mem _ hx)), if_pos (by omega)]
    simp only [sumH, List.map_cons, List.sum_cons]
    omega
theorem cntH_len (ps : List (Nat × Nat)) (n : Nat) : cntH ps n ≤ ps.length := List.countP_le_length
theorem cntH_pos {ps : List (Nat × Nat)} {n : Nat} : 0 < cntH ps n ↔ ∃ x ∈ ps, x.2 - x.1 = n := by
  unfold cntH; rw [List.countP_pos_iff]; simp
theorem sumTo_le (ps : List (Nat × Nat)) (hl : ps.length ≤ 32) (m : Nat) (hm : m ≤ 32) : sumTo ps m ≤ 1024 * m := by
  induction m with
  | zero => simp [sumTo]
  | succ m ih =>
    simp only [sumTo]
    have h1 := ih (by omega)
    have h2 := cntH_len ps (m + 1)
    have h3 : (m + 1) * cntH ps (m + 1) ≤ 32 * 32 := Nat.mul_le_mul hm (by omega)
    omega
theorem mostTo_spec (ps : List (Nat × Nat)) (m : Nat) : mostTo ps m ≤ m ∧ (0 < mostTo ps m → 0 < cntH ps (mostTo ps m)) ∧ (∀ n, mostTo ps m < n → n ≤ m → cntH ps n = 0) := by
  induction m with
  | zero => exact ⟨Nat.le_refl _, fun h => absurd h (Nat.lt_irrefl _), fun n h1 h2 => by simp [mostTo] at h1; omega⟩
  | succ m ih =>
    simp only [mostTo]
    by_cases h : 0 < cntH ps (m + 1)
    · rw [if_pos h]; exact ⟨Nat.le_refl _, fun _ => h, fun n h1 h2 => by omega⟩
    · rw [if_neg h]
      obtain ⟨h1, h2, h3⟩ := ih
      refine ⟨by omega, h2, fun n hn hn' => ?_⟩
      by_cases e : n = m + 1
      · subst e; omega
      · exact h3 n hn (by omega)
theorem foldmax_spec (ps : List (Nat × Nat)) : ∀ m, m ≤ ps.foldl (fun m p => max m (p.2 - p.1)) m ∧ (∀ x ∈ ps, x.2 - x.1 ≤ ps.foldl (fun m p => max m (p.2 - p.1)) m) ∧ (ps.foldl (fun m p => max m (p.2 - p.1)) m = m ∨ ∃ x ∈ ps, x.2 - x.1 = ps.foldl (fun m p => max m (p.2 - p.1)) m) := by
  induction ps with
  | nil => intro m; exact ⟨Nat.le_refl _, (fun x hx => by cases hx), .inl rfl⟩
  | cons p ps ih =>
    intro m
    obtain ⟨h1, h2, h3⟩ := ih (max m (p.2 - p.1))
    simp only [List.foldl_cons]
    refine ⟨by omega, fun x hx => ?_, ?_⟩
    · rcases List.mem_cons.1 hx with rfl | hx
      · omega
      · exact h2 x hx
    · rcases h3 with h3 | ⟨x, hx, h3⟩
      · by_cases hc : p.2 - p.1 ≤ m
        · left; omega
        · right; exact ⟨p, List.mem_cons_self, by omega⟩
      · exact .inr ⟨x, List.mem_cons_of_mem _ hx, h3⟩
theorem maxH_ge (ps : List (Nat × Nat)) (x : Nat × Nat) (hx : x ∈ ps) : x.2 - x.1 ≤ maxH ps := (foldmax_spec ps 0).2.1 x hx
theorem maxH_att (ps : List (Nat × Nat)) (h : 0 < maxH ps) : ∃ x ∈ ps, x.2 - x.1 = maxH ps := by
  rcases (foldmax_spec ps 0).2.2 with h0 | h0
  · have : maxH ps = 0 := h0
    omega
  · exact h0
theorem most_max (ps : List (Nat × Nat)) (h : ∀ x ∈ ps, x.1 < x.2 ∧ x.2 ≤ 32) : mostTo ps 32 = maxH ps := by
  obtain ⟨h1, h2, h3⟩ := mostTo_spec ps 32
  rcases Nat.lt_trichotomy (mostTo ps 32) (maxH ps) with hlt | heq | hgt
  · obtain ⟨x, hx, hxe⟩ := maxH_att ps (by omega)
    have hb := h x hx
    have := h3 (maxH ps) hlt (by omega)
    have hp : 0 < cntH ps (maxH ps) := cntH_pos.2 ⟨x, hx, hxe⟩
    omega
  · exact heq
  · obtain ⟨x, hx, hxe⟩ := cntH_pos.1 (h2 (by omega))
    have := maxH_ge ps x hx
    omega
/-- Nothing longer than the longest fits; the longest does. -/
theorem fit_more (q : Nat → Bool) : fitO q ((maxH (holesZ q 0) : Int) + 1) = none := by
  unfold fitO
  rw [if_pos (by omega), List.find?_eq_none]
  intro x hx
  have := maxH_ge _ x hx
  simp [wantB]
  omega
theorem fit_most (q : Nat → Bool) (h : 0 < maxH (holesZ q 0)) : ∃ x : Nat × Nat, fitO q (maxH (holesZ q 0) : Int) = some x ∧ x.2 - x.1 = maxH (holesZ q 0) ∧ x.1 < x.2 ∧ x.2 ≤ 32 := by
  unfold fitO
  rw [if_pos (by omega)]
  cases hf : (holesZ q 0).find? (wantB (maxH (holesZ q 0) : Int)) with
  | none =>
    obtain ⟨x, hx, he⟩ := maxH_att _ h
    have := List.find?_eq_none.1 hf x hx
    simp [wantB] at this
    omega
  | some x =>
    have hm := List.mem_of_find?_eq_some hf
    have hw := List.find?_some hf
    have := maxH_ge _ x hm
    simp [wantB] at hw
    have hb := holesZ_bounds q 32 0 (by omega) x hm
    exact ⟨x, rfl, by omega, hb⟩
theorem fit_zero (q : Nat → Bool) : fitO q 0 = none := rfl

/-- How many of n lines from i on are free. -/
def freeN (q : Nat → Bool) : Nat → Nat → Nat
  | 0, _ => 0
  | n + 1, i => (if q i = true then 0 else 1) + freeN q n (i + 1)
theorem freeN_add (q : Nat → Bool) (a b : Nat) : ∀ i, freeN q (a + b) i = freeN q a i + freeN q b (i + a) := by
  induction a with
  | zero => intro i; simp [freeN]
  | succ a ih =>
    intro i
    rw [show a + 1 + b = (a + b) + 1 by omega]
    simp only [freeN]
    rw [ih, show i + 1 + a = i + (a + 1) by omega]
    omega
theorem freeN_all (q : Nat → Bool) (a : Nat) : ∀ i, (∀ k, i ≤ k → k < i + a → q k = false) → freeN q a i = a := by
  induction a with
  | zero => intro i _; rfl
  | succ a ih =>
    intro i h
    simp only [freeN]
    rw [ih (i + 1) (fun k h1 h2 => h k (by omega) (by omega)), h i (Nat.le_refl _) (by omega)]
    simp; omega
theorem sumH_free (q : Nat → Bool) (n : Nat) : ∀ i, 32 - i ≤ n → sumH (holesZ q i) = freeN q (32 - i) i := by
  induction n with
  | zero => intro i h; rw [holesZ_end q i (by omega), show 32 - i = 0 by omega]; rfl
  | succ n ih =>
    intro i h
    by_cases hi : i < 32
    · cases hq : q i with
      | true =>
        rw [holesZ_kept q i hi hq, ih (i + 1) (by omega), show 32 - i = (32 - (i + 1)) + 1 by omega]
        simp [freeN, hq]
      | false =>
        have hg := stopZ_gt q i hi hq
        obtain ⟨_, s2, s3, _⟩ := stopZ_spec q i
        have s2 := s2 (by omega)
        rw [holesZ_free q i hi hq, show 32 - i = (stopZ q i - i) + (32 - stopZ q i) by omega, freeN_add, freeN_all q _ i (fun k h1 h2 => s3 k h1 (by omega)), show i + (stopZ q i - i) = stopZ q i by omega, ← ih (stopZ q i) (by omega)]
        simp [sumH]
    · rw [holesZ_end q i (by omega), show 32 - i = 0 by omega]; rfl
theorem kept_free (z : Nat → Int) (m : Nat) (hm : m ≤ 32) : (keptL z m).length + freeN (keptZ z) m 0 = m := by
  induction m with
  | zero => rfl
  | succ m ih =>
    rw [keptL_succ z m (by omega), freeN_add _ m 1, List.length_append, Nat.zero_add]
    have := ih (by omega)
    cases hk : keptZ z m <;> simp [freeN, hk] <;> omega
theorem room_count (z : Nat → Int) : sumH (holesZ (keptZ z) 0) + (keptL z 32).length = 32 := by
  have h1 := sumH_free (keptZ z) 32 0 (by omega)
  have h2 := kept_free z 32 (Nat.le_refl _)
  simp only [Nat.sub_zero] at h1
  omega
theorem cntH_zero (ps : List (Nat × Nat)) (h : ∀ x ∈ ps, x.1 < x.2 ∧ x.2 ≤ 32) : cntH ps 0 = 0 := by
  rcases Nat.eq_zero_or_pos (cntH ps 0) with h0 | h0
  · exact h0
  · obtain ⟨x, hx, he⟩ := cntH_pos.1 h0
    have := h x hx
    omega
end Go.Proofs.YtgjhdjfjfmbejaaDoor
