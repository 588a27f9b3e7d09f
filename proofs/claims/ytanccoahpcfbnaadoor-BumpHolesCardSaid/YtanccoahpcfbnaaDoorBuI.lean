/-
  bump's cursors, one by one.
-/
import Derived.Test.YtanccoahpcfbnaaDoorBuD
import Derived.Test.YtanccoahpcfbnaaDoorRng
namespace Go.Proofs.YtanccoahpcfbnaaDoor
open Go.RowKit Go.Lib Go.Shelf Ad
attribute [local go_sem] Oper.semAt_some
set_option linter.unusedSimpArgs false
set_option linter.unusedVariables false

theorem cursors_any (T : Nat) (w : World) : Calls Tryd.prog 45 #[.pointer (some ⟨T, 0, none⟩)] w fun e w' =>
    e = .returned (.func (.func 57) #[] #[.pointer (some ⟨w.heap.size, 0, none⟩)]) ∧ w.alloc (.cells #[.pointer (some ⟨T, 0, none⟩)] 85) = w' := by
  go_enter Tryd.func45, Tryd.ntmps45
  go_wp2
  go_ret
  exact ⟨rfl, rfl⟩

/-- The holes whose cursors come next behind a cursor. -/
structure Chn (F : Int → Option (Nat × Nat)) (B : Int) (c0 : Cu) (hs : List (Nat × Nat)) : Prop where
  first : nextC F c0 = hs.head?.map (mkC B)
  next : ∀ (j : Nat) x, hs[j]? = some x → nextC F (mkC B x) = hs[j + 1]?.map (mkC B)
  up : ∀ (j : Nat) x y, hs[j]? = some x → hs[j + 1]? = some y → x.2 < y.2
  top : ∀ x ∈ hs, x.2 ≤ 32
  len : hs.length ≤ 32
/-- The cells of cursors. -/
def cvals (B : Int) (hs : List (Nat × Nat)) : List Value := hs.flatMap fun x => [.int .i64 B, .int .i64 (4096 * B + (x.1 : Int) * 128), .int .i64 (4096 * B + (x.2 : Int) * 128)]
/-- Behind so many cursors: the list in its box, the loop's own blocks. -/
structure AJ (w : World) (s Lb : Nat) (r : Loop) (vs : List Value) (k : Nat) (lv : Value) (W : World) : Prop where
  box : Blk W Lb #[lv] 45
  row : W.ownsRow w.heap.size 23 3 lv k vs
  dfr : W.heap[s]? = some (.deferred (some []))
  lop : W.heap[s + 1]? = some (.loop r)
  low : Below w.heap.size w W
  hLb : w.heap.size ≤ Lb
  hs : w.heap.size ≤ s
theorem AJ.grown {w : World} {s Lb : Nat} {r : Loop} {vs : List Value} {k : Nat} {lv : Value} {W W' : World} (h : AJ w s Lb r vs k lv W) {row : Option Nat} (hg : W.grownBy W' row)
    (h1 : ∀ b, row = some b → b ≠ Lb ∧ lv.ownBlock ≠ some b ∧ b ≠ s ∧ b ≠ s + 1 ∧ w.heap.size ≤ b) : AJ w s Lb r vs k lv W' := {
  box := h.box.grown hg (fun e => (h1 Lb e.symm).1 rfl)
  row := h.row.kept hg (by
    cases ho : lv.ownBlock with
    | none => exact .inl rfl
    | some g => exact .inr fun e => (h1 g e.symm).2.1 ho)
  dfr := (hg.block s (Array.getElem?_eq_some_iff.1 h.dfr).1 (fun e => (h1 s e.symm).2.2.1 rfl)).trans h.dfr
  lop := (hg.block (s + 1) (Array.getElem?_eq_some_iff.1 h.lop).1 (fun e => (h1 (s + 1) e.symm).2.2.2.1 rfl)).trans h.lop
  low := h.low.grown hg h.low.size (fun b e => (h1 b e).2.2.2.2)
  hLb := h.hLb
  hs := h.hs }
theorem AJ.al {w : World} {s Lb : Nat} {r : Loop} {vs : List Value} {k : Nat} {lv : Value} {W : World} (h : AJ w s Lb r vs k lv W) (o : Obj) : AJ w s Lb r vs k lv (W.alloc o) := h.grown (World.grownBy_alloc W o none) (fun _ e => by cases e)
theorem own_lt {w : World} {base : Nat} {e : TypeId} {size n : Nat} {v : Value} {xs : List Value} (h : w.ownsRow base e size v n xs) {k : Nat} (hk : v.ownBlock = some k) : k < w.heap.size := by
  rcases h.2 with ⟨rfl, _⟩ | ⟨g, cap, cur, rfl, _, hg, _⟩
  · simp [Value.ownBlock] at hk
  · simp [Value.ownBlock] at hk; subst hk; exact (Array.getElem?_eq_some_iff.1 hg).1
/-- What a round leaves of blocks that are not the list's. -/
def Fk (W : World) (Lb : Nat) (lv : Value) (W' : World) (lv' : Value) : Prop := ∀ b cs t, Blk W b cs t → b ≠ Lb → lv.ownBlock ≠ some b → Blk W' b cs t ∧ (t ≠ 23 → lv'.ownBlock ≠ some b)
/-- A cursor that may be none, as three numbers. -/
theorem cur_abc (o : Option Cu) : ∃ a b c, curA o = #[.int .i64 a, .int .i64 b, .int .i64 c] := by
  cases o with
  | none => exact ⟨_, _, _, rfl⟩
  | some x => exact ⟨_, _, _, rfl⟩
def limW (T : Nat) (W : World) : Int := match W.cell? ⟨T, 2, none⟩ with
  | some (.int _ x) => x
  | _ => 0
theorem limW_eq {T : Nat} {W : World} {c : Cu} {v : Value} {t : TypeId} (h : Blk W T (tkA c v) t) : limW T W = c.2.2 := by
  have : W.cell? ⟨T, 2, none⟩ = some (.int .i64 c.2.2) := h.cell rfl
  simp [limW, this]
/-- The head of the iterator's loop, behind j cursors. -/
structure CRel (w : World) (s Lb T Bk : Nat) (r : Loop) (B : Int) (hs : List (Nat × Nat)) (v : Value) (s4 s5 : Value) (wr : World) (j Bc : Nat) (tc : Cu) (lv : Value) : Prop where
  e4 : s4 = .pointer (some ⟨Bc, 0, none⟩)
  e5 : s5 = .bool hs[j]?.isSome
  hj : j ≤ hs.length
  ht : ∀ x, hs[j]? = some x → tc = mkC B x
  bC : Blk wr Bc (curA (hs[j]?.map (mkC B))) 23
  bT : Blk wr T (tkA tc v) 56
  bK : Blk wr Bk #[.pointer (some ⟨T, 0, none⟩)] 85
  aj : AJ w s Lb r (cvals B (hs.take j)) j lv wr
  nT : lv.ownBlock ≠ some T
  nK : lv.ownBlock ≠ some Bk
  nC : lv.ownBlock ≠ some Bc
  oC : Bc ≠ Lb ∧ Bc ≠ T ∧ Bc ≠ Bk ∧ Bc ≠ s ∧ Bc ≠ s + 1 ∧ w.heap.size ≤ Bc
set_option maxRecDepth 100000 in
set_option maxHeartbeats 2000000 in
theorem cursors1 (m : Nat) (hm : 2 ≤ m) (T Bk s Lb : Nat) (p : Option Addr) (n cap : Nat) (B : Int) (c0 : Cu) (hs : List (Nat × Nat)) (r : Loop) (w W0 : World) (F : Int → Option (Nat × Nat)) (hN : NxAt w (.slice p n cap) F) (hF : InL F) (aA aS aR : Addr) (hV : AV w aA aS aR)
    (hC : Chn F B c0 hs) (Jx : World → Prop) (lv : Value) (hT : w.heap.size ≤ T) (hne : T ≠ Lb ∧ T ≠ Bk ∧ T ≠ s ∧ T ≠ s + 1 ∧ Bk ≠ Lb)
    (bT : Blk W0 T (tkA c0 (.slice p n cap)) 56) (bK : Blk W0 Bk #[.pointer (some ⟨T, 0, none⟩)] 85) (aj : AJ w s Lb r [] 0 lv W0) (nT : lv.ownBlock ≠ some T) (nK : lv.ownBlock ≠ some Bk)
    (hY : ∀ j x lv W, hs[j]? = some x → AJ w s Lb r (cvals B (hs.take j)) j lv W → YieldAt Fence.wide (m - 1) Tryd.prog (s + 1) #[.agg #[.int .i64 B, .int .i64 (4096 * B + (x.1 : Int) * 128), .int .i64 (4096 * B + (x.2 : Int) * 128)]] W fun e W' =>
      (e = .returned (.bool true) ∧ ∃ lv', AJ w s Lb r (cvals B (hs.take (j + 1))) (j + 1) lv' W' ∧ Fk W Lb lv W' lv') ∨ (e = .returned (.bool false) ∧ Jx W')) :
    CallsIn Fence.wide m Tryd.prog 57 (#[.func (.yield (s + 1)) #[] #[]] ++ #[.pointer (some ⟨Bk, 0, none⟩)]) W0 fun e W' => (∃ v, e = .returned v) ∧ ((∃ lv', AJ w s Lb r (cvals B hs) hs.length lv' W') ∨ Jx W') := by
  have cK : W0.cell? ⟨Bk, 0, none⟩ = some (.pointer (some ⟨T, 0, none⟩)) := bK.cell rfl
  have hTl := bT.lt
  have h0 := tnext_any T p n cap c0 W0 F (hN.below aj.low) hF aA aS aR (hV.below aj.low) bT
  rw [hC.first] at h0
  obtain ⟨a, b, c, habc⟩ := cur_abc (hs.head?.map (mkC B))
  obtain ⟨bb, hbb⟩ : ∃ bb, (hs.head?.map (mkC B)).isSome = bb := ⟨_, rfl⟩
  have h0' : Calls Tryd.prog 44 #[.pointer (some ⟨T, 0, none⟩)] W0 fun e w' => e = .returned (.tuple #[.agg #[.int .i64 a, .int .i64 b, .int .i64 c], .bool bb]) ∧ Blk w' T (tkA ((hs.head?.map (mkC B)).getD c0) (.slice p n cap)) 56 ∧ Upd T W0 w' := by
    refine h0.mono ?_
    rintro e w' ⟨rfl, h1, h2⟩
    exact ⟨by rw [curV, habc, hbb], h1, h2⟩
  have H0 := Lib.hid h0'
  have HY := Lib.hid hY
  have HC := Lib.hid hC
  have HN := Lib.hid hN
  have HV := Lib.hid hV
  have HF := Lib.hid hF
  have HA := Lib.hid aj
  have HK := Lib.hid bK
  have Habc := Lib.hid habc
  have Hbb := Lib.hid hbb
  have h1m : 1 ≤ m := by omega
  clear h0 h0' hY hC hN hV hF aj bK bT habc hbb
  refine callsIn_of_wp Tryd.func57 rfl trivial ?_ rfl
  simp only [Tryd.ntmps57, List.size_toArray, List.length_cons, List.length_nil, Nat.reduceAdd, Nat.reduceSub, Array.replicate_succ, Array.replicate_zero, List.push_toArray, List.append_toArray, List.nil_append, List.cons_append]
  gi_wp2_with fail
  refine ⟨trivial, ?_⟩
  ((with_reducible refine (callsIn_wide.2 H0.out).mono ?_))
  rintro e w1 ⟨rfl, bT1, hU1⟩
  have HA1 := Lib.hid (HA.out.grown hU1 (fun b e => by cases e; exact ⟨hne.1, nT, hne.2.2.1, hne.2.2.2.1, hT⟩))
  have HK1 := Lib.hid (hU1.blk HK.out hne.2.1.symm)
  have HT1 := Lib.hid bT1
  clear bT1 hU1 HA HK H0 cK
  gi_wp2
  gi_loopw [4, 5] (fun s4 s5 wr => ∃ j Bc tc lv', CRel w s Lb T Bk r B hs (.slice p n cap) s4 s5 wr j Bc tc lv') (fun _ s5 wr => 2 * (4096 * B + 5000 - limW T wr).toNat + (match s5 with | .bool true => 1 | _ => 0))
  case atStart =>
    have hh : hs[0]? = hs.head? := by cases hs <;> rfl
    have hlt1 := HT1.out.lt
    have hlK := HK1.out.lt
    have hlL := HA1.out.box.lt
    have hls := (Array.getElem?_eq_some_iff.1 HA1.out.lop).1
    refine ⟨0, w1.heap.size, (hs.head?.map (mkC B)).getD c0, lv, ⟨rfl, ?_, Nat.zero_le _, ?_, ?_, HT1.out.alloc _, HK1.out.alloc _, HA1.out.al _, nT, nK, ?_, ⟨by omega, by omega, by omega, by omega, by omega, HA1.out.low.size⟩⟩⟩
    · rw [hh, ← Hbb.out, Option.isSome_map]
    · intro x hx
      rw [hh] at hx
      rw [hx]
      rfl
    · rw [hh, Habc.out]
      exact Blk.new _ _ _
    · intro e
      have := own_lt HA1.out.row e
      omega
  case round =>
    obtain ⟨j, Bc, tc, lv', h⟩ := hrel
    clear HA1 HK1 HT1 Habc Hbb
    cases hx : hs[j]? with
    | none =>
      obtain ⟨rfl, e5, hj, _, _, _, _, aj, _, _, _, _⟩ := h
      rw [hx, Option.isSome_none] at e5
      subst e5
      have hjl : j = hs.length := by
        have := List.getElem?_eq_none_iff.1 hx
        omega
      subst hjl
      rw [List.take_length] at aj
      have AJe := Lib.hid aj
      clear hx hj aj
      gi_wp2
      try rw [Exit.noGoto_normal]
      go_end0
      exact ⟨⟨_, rfl⟩, .inl ⟨lv', AJe.out⟩⟩
    | some x =>
      obtain ⟨rfl, e5, hj, ht, bC, bT, bK, aj, nT, nK, nC, oC⟩ := h
      rw [hx, Option.isSome_some] at e5
      rw [hx] at bC
      subst e5
      obtain rfl := ht x hx
      have c0 : wr.cell? ⟨Bc, 0, none⟩ = some (.int .i64 B) := bC.cell rfl
      have c1 : wr.cell? ⟨Bc, 1, none⟩ = some (.int .i64 (4096 * B + (x.1 : Int) * 128)) := bC.cell rfl
      have c2 : wr.cell? ⟨Bc, 2, none⟩ = some (.int .i64 (4096 * B + (x.2 : Int) * 128)) := bC.cell rfl
      obtain ⟨fn, tmps, assign, body, hy, hR⟩ := HY.out j x lv' wr hx aj
      have HX := Lib.hid hx
      have BC := Lib.hid bC
      have BT := Lib.hid bT
      have BK := Lib.hid bK
      have HLM := Lib.hid (limW_eq bT)
      clear hx bC bT bK aj ht
      gi_wp2
      refine hR.mono ?_
      rintro ee W3 (⟨rfl, lv2, aj2, hFk⟩ | ⟨rfl, hJx⟩)
      · obtain ⟨bC, nC2⟩ := hFk _ _ _ BC.out oC.1 nC
        obtain ⟨bT, nT3⟩ := hFk _ _ _ BT.out hne.1 nT
        obtain ⟨bK, nK3⟩ := hFk _ _ _ BK.out hne.2.2.2.2 nK
        have nT2 := nT3 (by decide)
        have nK2 := nK3 (by decide)
        clear nT3 nK3
        have d0 : W3.cell? ⟨Bc, 0, none⟩ = some (.int .i64 B) := bC.cell rfl
        have d1 : W3.cell? ⟨Bc, 1, none⟩ = some (.int .i64 (4096 * B + (x.1 : Int) * 128)) := bC.cell rfl
        have d2 : W3.cell? ⟨Bc, 2, none⟩ = some (.int .i64 (4096 * B + (x.2 : Int) * 128)) := bC.cell rfl
        have ajA := aj2.al (.cells #[.int .i64 B, .int .i64 (4096 * B + (x.1 : Int) * 128), .int .i64 (4096 * B + (x.2 : Int) * 128)] 23)
        have hN2 := tnext_any T p n cap (mkC B x) _ F (HN.out.below ajA.low) HF.out aA aS aR (HV.out.below ajA.low) (bT.alloc (.cells #[.int .i64 B, .int .i64 (4096 * B + (x.1 : Int) * 128), .int .i64 (4096 * B + (x.2 : Int) * 128)] 23))
        rw [HC.out.next j x HX.out] at hN2
        obtain ⟨a', b', c', habc⟩ := cur_abc (hs[j + 1]?.map (mkC B))
        obtain ⟨bb', hbb⟩ : ∃ bb, (hs[j + 1]?.map (mkC B)).isSome = bb := ⟨_, rfl⟩
        have hN3 : Calls Tryd.prog 44 #[.pointer (some ⟨T, 0, none⟩)] (W3.alloc (.cells #[.int .i64 B, .int .i64 (4096 * B + (x.1 : Int) * 128), .int .i64 (4096 * B + (x.2 : Int) * 128)] 23)) fun e w' => e = .returned (.tuple #[.agg #[.int .i64 a', .int .i64 b', .int .i64 c'], .bool bb']) ∧ Blk w' T (tkA ((hs[j + 1]?.map (mkC B)).getD (mkC B x)) (.slice p n cap)) 56 ∧ Upd T (W3.alloc (.cells #[.int .i64 B, .int .i64 (4096 * B + (x.1 : Int) * 128), .int .i64 (4096 * B + (x.2 : Int) * 128)] 23)) w' := by
          refine hN2.mono ?_
          rintro e w' ⟨rfl, h1, h2⟩
          exact ⟨by rw [curV, habc, hbb], h1, h2⟩
        have HN3 := Lib.hid hN3
        have Habc := Lib.hid habc
        have Hbb := Lib.hid hbb
        have AJA := Lib.hid ajA
        have BKA := Lib.hid (bK.alloc (.cells #[.int .i64 B, .int .i64 (4096 * B + (x.1 : Int) * 128), .int .i64 (4096 * B + (x.2 : Int) * 128)] 23))
        have BTL := bT.lt
        have BKL := bK.lt
        have BLL := aj2.box.lt
        have BSL := (Array.getElem?_eq_some_iff.1 aj2.lop).1
        have BWL := aj2.low.size
        have HOL := Lib.hid (fun k (hk : lv2.ownBlock = some k) => own_lt aj2.row hk)
        have BDN := Lib.hid (Blk.new W3 #[.int .i64 B, .int .i64 (4096 * B + (x.1 : Int) * 128), .int .i64 (4096 * B + (x.2 : Int) * 128)] 23)
        clear hy hR c0 c1 c2 BC BT BK hN2 hN3 habc hbb ajA bC bT bK aj2 hFk nC nT nK
        gi_wp2_with fail
        refine ⟨trivial, ?_⟩
        ((with_reducible refine (callsIn_wide.2 HN3.out).mono ?_))
        rintro e w4 ⟨rfl, bT4, hU4⟩
        have bD4 := hU4.blk BDN.out (by omega)
        have g0 : w4.cell? ⟨W3.heap.size, 0, none⟩ = some (.int .i64 B) := bD4.cell rfl
        have g1 : w4.cell? ⟨W3.heap.size, 1, none⟩ = some (.int .i64 (4096 * B + (x.1 : Int) * 128)) := bD4.cell rfl
        have g2 : w4.cell? ⟨W3.heap.size, 2, none⟩ = some (.int .i64 (4096 * B + (x.2 : Int) * 128)) := bD4.cell rfl
        have z0 := bD4.frozen 0
        have z1 := bD4.frozen 1
        have z2 := bD4.frozen 2
        have AJ4 := Lib.hid (AJA.out.grown hU4 (fun b e => by cases e; exact ⟨hne.1, nT2, hne.2.2.1, hne.2.2.2.1, hT⟩))
        have BK4 := Lib.hid (hU4.blk BKA.out hne.2.1.symm)
        have BT4 := Lib.hid bT4
        have BD4 := Lib.hid bD4
        clear bT4 hU4 bD4 d0 d1 d2 HN3 AJA BKA BDN
        gi_wp2
        go_roundw
        case rel =>
          have hlen : j + 1 ≤ hs.length := by
            have := (List.getElem?_eq_some_iff.1 HX.out).1
            omega
          have bX := ((BD4.out.set 0 (.int .i64 a')).set 1 (.int .i64 b')).set 2 (.int .i64 c')
          have hg : w4.grownBy (((w4.setCell ⟨W3.heap.size, 0, none⟩ (.int .i64 a')).setCell ⟨W3.heap.size, 1, none⟩ (.int .i64 b')).setCell ⟨W3.heap.size, 2, none⟩ (.int .i64 c')) (some W3.heap.size) := (((Upd.refl W3.heap.size w4).set).set).set
          refine ⟨j + 1, W3.heap.size, (hs[j + 1]?.map (mkC B)).getD (mkC B x), lv2, ⟨rfl, ?_, hlen, ?_, ?_, ?_, ?_, ?_, nT2, nK2, ?_, ⟨by omega, by omega, by omega, by omega, by omega, by omega⟩⟩⟩
          · rw [← Hbb.out, Option.isSome_map]
          · intro y hy
            rw [hy]
            rfl
          · rw [Habc.out]
            exact bX
          · exact BT4.out.grown hg (by intro e; simp at e; omega)
          · exact BK4.out.grown hg (by intro e; simp at e; omega)
          · exact AJ4.out.grown hg (fun b e => by cases e; exact ⟨by omega, fun e => by have := HOL.out _ e; omega, by omega, by omega, by omega⟩)
          · intro e
            have := HOL.out _ e
            omega
        case measure =>
          have hg : w4.grownBy (((w4.setCell ⟨W3.heap.size, 0, none⟩ (.int .i64 a')).setCell ⟨W3.heap.size, 1, none⟩ (.int .i64 b')).setCell ⟨W3.heap.size, 2, none⟩ (.int .i64 c')) (some W3.heap.size) := (((Upd.refl W3.heap.size w4).set).set).set
          have h2 := limW_eq (BT4.out.grown hg (by intro e; simp at e; omega))
          rw [HLM.out, h2]
          have hx2 := HC.out.top x (List.mem_of_getElem? HX.out)
          cases hy : hs[j + 1]? with
          | none =>
            have : bb' = false := by rw [← Hbb.out, hy]; rfl
            subst this
            simp [mkC]
          | some y =>
            have : bb' = true := by rw [← Hbb.out, hy]; rfl
            subst this
            have h3 := HC.out.up j x y HX.out hy
            have hy2 := HC.out.top y (List.mem_of_getElem? hy)
            simp [mkC]
            omega
      · have HJ := Lib.hid hJx
        clear hJx hy hR
        gi_wp2
        try rw [Exit.noGoto_ret]
        refine bodyPost_ret (results_none rfl _ _ _) rfl ?_
        exact ⟨⟨_, rfl⟩, .inr HJ.out⟩
end Go.Proofs.YtanccoahpcfbnaaDoor
