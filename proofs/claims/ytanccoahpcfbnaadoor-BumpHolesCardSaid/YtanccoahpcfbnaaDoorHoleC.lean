/-
  hole.finder.holes goes through the holes of its table, rising, from its line on; what lay in memory stays.
-/
import Derived.Test.YtanccoahpcfbnaaDoorHoleB
namespace Go.Proofs.YtanccoahpcfbnaaDoor
open Go.RowKit Go.Lib Go.Shelf
attribute [local go_sem] Oper.semAt_some

theorem abides_al {β : Type} {B : Nat} {J : β → World → Prop} (h : AbidesFrom B J) {s : β} {W : World} (o : Obj) (hs : J s W) : J s (W.alloc o) := h s W _ none hs (World.grownBy_alloc W o none) (fun _ e => by cases e)
def rawH (xs : List Hl) : List (Nat × Nat) := xs.map (·.1)
/-- None of the lines from m up to k is kept. -/
def freeIn (q : Nat → Bool) (m k : Nat) : Prop := ∀ j, m ≤ j → j < k → q j = false
theorem free_snoc {q : Nat → Bool} {m k : Nat} (h : freeIn q m k) (hk : q k = false) : freeIn q m (k + 1) := fun j h1 h2 => by
  by_cases e : j = k
  · rw [e]; exact hk
  · exact h j h1 (by omega)
theorem rawH_snoc (xs : List Hl) (x : Hl) : rawH (xs ++ [x]) = rawH xs ++ [x.1] := by simp [rawH]

set_option maxRecDepth 100000 in
set_option maxHeartbeats 2000000 in
theorem holes1_stops (n : Nat) (hn : 1 ≤ n) (B f : Nat) (q : Nat → Bool) (w : World) (hB : Blk w B (fcells q f) 77) :
    SeqStopsK Fence.wide n Tryd.prog 59 #[.pointer (some ⟨B, 0, none⟩)] encH (KS [B]) (fun xs => rawH xs = holesZ q f) (fun pre => rawH pre <+: holesZ q f) 32 w := fun l J Jx W hW hJ hJx hY h0 => by
  have hB' := hB.below' hW
  have HY := Lib.hid hY
  have HJ := Lib.hid hJ
  clear hB hW hJ hJx hY
  have cf : W.cell? ⟨B, 32, none⟩ = some (.int .i64 (f : Int)) := hB'.cell (fcells_from q f)
  refine callsIn_of_wp Tryd.func59 rfl trivial ?_ rfl
  simp only [Tryd.ntmps59, List.size_toArray, List.length_cons, List.length_nil, Nat.reduceAdd, Nat.reduceSub, Array.replicate_succ, Array.replicate_zero, List.push_toArray, List.append_toArray, List.nil_append, List.cons_append]
  gi_wp2_with fail
  refine wpIn_scope_straight ?_
  gi_wp2_with fail
  refine wpIn_label ?_
  gi_wp2_with fail
  gi_loopw [3] (fun i wr => ∃ (m : Nat) (pre : List Hl), i = .int .i64 (m : Int) ∧ J pre wr ∧ rawH pre ++ holesZ q m = holesZ q f ∧ Blk wr B (fcells q f) 77) (fun i _ => 64 - (intOf i).toNat)
  case atStart => exact ⟨f, [], rfl, h0, rfl, hB'⟩
  case round =>
    obtain ⟨m, pre, rfl, hJs, hpre, gB⟩ := hrel
    have HP := Lib.hid hpre
    clear hB' h0 hpre cf
    by_cases hm : m < 32
    · have cm : wr.cell? ⟨B, m, none⟩ = some (.bool (q m)) := gB.cell (fcells_get q f m hm)
      cases hq : q m with
      | true =>
        rw [hq] at cm
        have hz := holesZ_kept q m hm hq
        have HZ := Lib.hid hz
        clear hz hq
        gi_wp2
        go_roundw
        case rel => exact ⟨m + 1, pre, by go_num, hJs, by rw [← HZ.out]; exact HP.out, gB⟩
        case measure => simp [intOf]; omega
      | false =>
        rw [hq] at cm
        have HQ := Lib.hid hq
        clear hq
        have hz := holesZ_free q m hm HQ.out
        have hgt := stopZ_gt q m hm HQ.out
        have HZ := Lib.hid hz
        clear hz
        obtain ⟨wo, rfl⟩ : ∃ wo : World, wo = wr := ⟨_, rfl⟩
        have hdm : decide ((m : Int) < 32) = true := by simp; omega
        have hlen : pre.length < 32 := by
          have h1 := congrArg List.length HP.out
          have h2 := holesZ_len q 32 f (by omega)
          rw [List.length_append, HZ.out, List.length_cons, rawH, List.length_map] at h1
          omega
        gi_wp2
        gi_loopw [3] (fun i W' => ∃ k : Nat, m ≤ k ∧ k ≤ 32 ∧ i = .int .i64 (k : Int) ∧ freeIn q m k ∧ W' = wo.alloc (.cells #[.int .i64 (m : Int), .int .i64 0] 53)) (fun i _ => 64 - (intOf i).toNat)
        case atStart => exact ⟨m, Nat.le_refl _, by omega, rfl, (fun j h1 h2 => by omega), rfl⟩
        case round =>
          obtain ⟨k, hk1, hk2, rfl, hfr, rfl⟩ := hrel
          have HF := Lib.hid hfr
          clear hfr
          by_cases hk : k < 32
          · have ck : wo.cell? ⟨B, k, none⟩ = some (.bool (q k)) := gB.cell (fcells_get q f k hk)
            cases hqk : q k with
            | false =>
              rw [hqk] at ck
              have HQK := Lib.hid hqk
              clear hqk
              have hBl := gB.lt
              gi_wp2
              go_roundw
              case rel => exact ⟨k + 1, by omega, by omega, by go_num, free_snoc HF.out HQK.out, (by first | rfl | trivial)⟩
              case measure => simp [intOf]; omega
            | true =>
              rw [hqk] at ck
              have hst := stopZ_eq q m k hk1 hk2 HF.out (fun _ => hqk)
              have HST := Lib.hid hst
              clear hqk hst
              have hBl := gB.lt
              have hmk : m < k := by have := HST.out; omega
              obtain ⟨fn, tmps, assign, body, hy, hR⟩ := HY.out pre ⟨(m, k), hmk, hk2⟩ _ (abides_al HJ.out (.cells #[.int .i64 (m : Int), .int .i64 (k : Int)] 53) hJs) hlen
              dsimp only [encH] at hy
              have hnext : rawH (pre ++ [⟨(m, k), hmk, hk2⟩]) ++ holesZ q k = holesZ q f := by
                rw [rawH_snoc, List.append_assoc]
                have h1 := HP.out
                rw [HZ.out, HST.out] at h1
                exact h1
              have HN := Lib.hid hnext
              have bH := gB.alloc (.cells #[.int .i64 (m : Int), .int .i64 (k : Int)] 53)
              have HX := Lib.hid bH
              clear hnext bH
              gi_wp2
              refine hR.mono ?_
              rintro ee W3 (⟨rfl, hJ3, hk3⟩ | ⟨rfl, hJx3⟩)
              · have b3 := hk3.blk (by simp) HX.out
                clear hy hR hk3 HX
                gi_wp2
                go_roundw
                case rel => exact ⟨k, _, rfl, hJ3, HN.out, b3⟩
                case measure => simp [intOf]; omega
              · gi_wp2
                try rw [Exit.noGoto_ret]
                refine bodyPost_ret (results_none rfl _ _ _) rfl ?_
                exact ⟨⟨_, rfl⟩, .inr ⟨_, ⟨_, HN.out⟩, hJx3⟩⟩
          · have hst := stopZ_eq q m k hk1 hk2 HF.out (fun h => absurd h hk)
            have HST := Lib.hid hst
            have hBl := gB.lt
            have hdk : decide ((k : Int) < 32) = false := by simp; omega
            clear hst
            have hmk : m < k := by have := HST.out; omega
            obtain ⟨fn, tmps, assign, body, hy, hR⟩ := HY.out pre ⟨(m, k), hmk, hk2⟩ _ (abides_al HJ.out (.cells #[.int .i64 (m : Int), .int .i64 (k : Int)] 53) hJs) hlen
            dsimp only [encH] at hy
            have hnext : rawH (pre ++ [⟨(m, k), hmk, hk2⟩]) ++ holesZ q k = holesZ q f := by
              rw [rawH_snoc, List.append_assoc]
              have h1 := HP.out
              rw [HZ.out, HST.out] at h1
              exact h1
            have HN := Lib.hid hnext
            have bH := gB.alloc (.cells #[.int .i64 (m : Int), .int .i64 (k : Int)] 53)
            have HX := Lib.hid bH
            clear hnext bH
            gi_wp2
            refine hR.mono ?_
            rintro ee W3 (⟨rfl, hJ3, hk3⟩ | ⟨rfl, hJx3⟩)
            · have b3 := hk3.blk (by simp) HX.out
              clear hy hR hk3 HX
              gi_wp2
              go_roundw
              case rel => exact ⟨k, _, rfl, hJ3, HN.out, b3⟩
              case measure => simp [intOf]; omega
            · gi_wp2
              try rw [Exit.noGoto_ret]
              refine bodyPost_ret (results_none rfl _ _ _) rfl ?_
              exact ⟨⟨_, rfl⟩, .inr ⟨_, ⟨_, HN.out⟩, hJx3⟩⟩
    · gi_wp2
      try rw [Exit.noGoto_normal]
      go_end0
      exact ⟨⟨_, rfl⟩, .inl ⟨pre, by have := HP.out; rw [holesZ_end q m (by omega), List.append_nil] at this; exact this, hJs⟩⟩
end Go.Proofs.YtanccoahpcfbnaaDoor
