/-
  bump.All.
-/
import Derived.Test.YtanccoahpcfbnaaDoorBuI
namespace Go.Proofs.YtanccoahpcfbnaaDoor
open Go.RowKit Go.Lib Go.Shelf Ad
attribute [local go_sem] Oper.semAt_some
set_option linter.unusedSimpArgs false
set_option linter.unusedVariables false

theorem Tryd.infoCur : (Tryd.prog.info? 23).map (fun i => (i.zero, i.size, i.bytes)) = some (some (.agg #[.int .i64 0, .int .i64 0, .int .i64 0]), 3, 24) := by kernel_rfl
theorem cvals_snoc (B : Int) (hs : List (Nat × Nat)) (j : Nat) (x : Nat × Nat) (h : hs[j]? = some x) : cvals B (hs.take (j + 1)) = cvals B (hs.take j) ++ [.int .i64 B, .int .i64 (4096 * B + (x.1 : Int) * 128), .int .i64 (4096 * B + (x.2 : Int) * 128)] := by
  obtain ⟨h1, h2⟩ := List.getElem?_eq_some_iff.1 h
  rw [List.take_succ_eq_append_getElem h1, h2]
  simp [cvals]
theorem cell_three_new (w : World) (x y z : Value) (t : TypeId) : ∀ j q, [x, y, z][j]? = some q → (w.alloc (.cells #[x, y, z] t)).cell? ((⟨w.heap.size, 0, none⟩ : Addr).add j) = some q := by
  intro j q hj
  have b := Blk.new w #[x, y, z] t
  rw [show (⟨w.heap.size, 0, none⟩ : Addr).add j = ⟨w.heap.size, j, none⟩ by simp [Addr.add]; omega]
  exact b.cell (by simpa using hj)
/-- What All gives: a list of the cursors. -/
def CuPost (w : World) (B : Int) (hs : List (Nat × Nat)) (e : Ending) (w' : World) : Prop := ∃ lv, e = .returned lv ∧ w'.ownsRow w.heap.size 23 3 lv hs.length (cvals B hs) ∧ Below w.heap.size w w'
theorem own_sl {w : World} {base : Nat} {e : TypeId} {size n : Nat} {v : Value} {xs : List Value} (h : w.ownsRow base e size v n xs) : ∃ q c, v = .slice q n c := by
  rcases h.2 with ⟨rfl, rfl⟩ | ⟨g, cap, cur, rfl, _⟩
  · exact ⟨none, 0, rfl⟩
  · exact ⟨_, _, rfl⟩
theorem own_ty {w : World} {base : Nat} {e : TypeId} {size n : Nat} {v : Value} {xs : List Value} (h : w.ownsRow base e size v n xs) {b : Nat} {cs : Array Value} {t : TypeId} (hb : Blk w b cs t) (ht : t ≠ e) : v.ownBlock ≠ some b := fun ho => by
  rcases h.2 with ⟨rfl, _⟩ | ⟨g, cap, cur, rfl, _, hg, _⟩
  · simp [Value.ownBlock] at ho
  · simp [Value.ownBlock] at ho
    subst ho
    rw [show w.heap[g]? = _ from hb] at hg
    simp at hg
    exact ht hg.2
/-- A round of All: the variable's box, the loop's record, the append, the list stored back, the record again. -/
theorem aj_step {w : World} {s Lb : Nat} {r rb r2 : Loop} {vs vs' : List Value} {k k' : Nat} {lv v' : Value} {W w2 : World} {o1 o2 : Obj} (aj : AJ w s Lb r vs k lv W)
    (hg : (((W.alloc o1).putObj (s + 1) (.loop rb)).alloc o2).grownBy w2 lv.ownBlock) (hown : w2.ownsRow w.heap.size 23 3 v' k' vs') :
    AJ w s Lb r2 vs' k' v' ((w2.setCell ⟨Lb, 0, none⟩ v').putObj (s + 1) (.loop r2)) ∧ Fk W Lb lv ((w2.setCell ⟨Lb, 0, none⟩ v').putObj (s + 1) (.loop r2)) v' ∧ (w2.setCell ⟨Lb, 0, none⟩ v').heap[s + 1]? = some (.loop rb) := by
  have hsl := (Array.getElem?_eq_some_iff.1 aj.lop).1
  have hLl := aj.box.lt
  have hzW := aj.low.size
  have hLs : Lb ≠ s + 1 := fun e => by have h1 := aj.lop; rw [← e, show W.heap[Lb]? = _ from aj.box] at h1; cases h1
  have hLd : Lb ≠ s := fun e => by have h1 := aj.dfr; rw [← e, show W.heap[Lb]? = _ from aj.box] at h1; cases h1
  have hoL := own_ty aj.row aj.box (by decide)
  have hz2 : W.heap.size + 2 ≤ w2.heap.size := by have := hg.size; simp at this; omega
  have hrs : lv.ownBlock ≠ some (s + 1) := fun ho => by
    rcases aj.row.2 with ⟨rfl, _⟩ | ⟨g, cap, cur, rfl, _, hg', _⟩
    · simp [Value.ownBlock] at ho
    · simp [Value.ownBlock] at ho; subst ho; rw [aj.lop] at hg'; cases hg'
  have hrd : lv.ownBlock ≠ some s := fun ho => by
    rcases aj.row.2 with ⟨rfl, _⟩ | ⟨g, cap, cur, rfl, _, hg', _⟩
    · simp [Value.ownBlock] at ho
    · simp [Value.ownBlock] at ho; subst ho; rw [aj.dfr] at hg'; cases hg'
  -- a block of W that is neither the record, nor the list's row: as it was, in w2
  have k2 : ∀ b, b < W.heap.size → b ≠ s + 1 → lv.ownBlock ≠ some b → w2.heap[b]? = W.heap[b]? := fun b h1 h2 h3 => by
    rw [hg.block b (by simp; omega) (fun e => h3 e.symm), Below.heap_alloc _ _ _ (by simp; omega), World.putObj_heap_other h2, Below.heap_alloc _ _ _ h1]
  have kL : ∀ b, b < W.heap.size → b ≠ s + 1 → b ≠ Lb → lv.ownBlock ≠ some b → ((w2.setCell ⟨Lb, 0, none⟩ v').putObj (s + 1) (.loop r2)).heap[b]? = W.heap[b]? := fun b h1 h2 h3 h4 => by
    rw [World.putObj_heap_other h2, Below.heap_setCell _ _ _ _ h3, k2 b h1 h2 h4]
  have hrec : w2.heap[s + 1]? = some (.loop rb) := by
    rw [hg.block (s + 1) (by simp; omega) (fun e => hrs e.symm), Below.heap_alloc _ _ _ (by simp; omega)]
    exact World.putObj_heap_same (by simp; omega)
  have hrec3 : (w2.setCell ⟨Lb, 0, none⟩ v').heap[s + 1]? = some (.loop rb) := (Below.heap_setCell _ _ _ _ (fun e => hLs e.symm)).trans hrec
  have bL2 : Blk w2 Lb #[lv] 45 := (k2 Lb hLl hLs hoL).trans aj.box
  have hov' : v'.ownBlock ≠ some Lb := own_ty hown bL2 (by decide)
  have hov2 : v'.ownBlock ≠ some (s + 1) := fun ho => by
    rcases hown.2 with ⟨rfl, _⟩ | ⟨g, cap, cur, rfl, _, hg', _⟩
    · simp [Value.ownBlock] at ho
    · simp [Value.ownBlock] at ho; subst ho; rw [hrec] at hg'; cases hg'
  have hb4 : Below w.heap.size w ((w2.setCell ⟨Lb, 0, none⟩ v').putObj (s + 1) (.loop r2)) := by
    have h1 := (aj.low.alloc aj.low.size o1)
    have hs1 : w.heap.size ≤ s + 1 := Nat.le_succ_of_le aj.hs
    have h2 : Below w.heap.size w ((W.alloc o1).putObj (s + 1) (.loop rb)) := h1.grown (grownBy_putObj' _ _ _) h1.size (fun j e => by cases e; exact hs1)
    have h3 := h2.alloc h2.size o2
    have h4 : Below w.heap.size w w2 := h3.grown hg h3.size (fun j e => by
      rcases aj.row.2 with ⟨h0, _⟩ | ⟨g, cap, cur, h0, hb, _⟩
      · rw [h0] at e; simp [Value.ownBlock] at e
      · rw [h0] at e; simp [Value.ownBlock] at e; omega)
    have h5 : Below w.heap.size w (w2.setCell ⟨Lb, 0, none⟩ v') := h4.setCell (p := ⟨Lb, 0, none⟩) aj.hLb v'
    exact h5.grown (grownBy_putObj' _ _ _) h5.size (fun j e => by cases e; exact hs1)
  refine ⟨⟨?_, ?_, ?_, ?_, hb4, aj.hLb, aj.hs⟩, ?_, hrec3⟩
  · exact blk_putObj _ (bL2.set 0 v') hrec3 rfl
  · exact ownsRow_putObj (hown.kept (grownBy_setCell' w2 _ _) (.inr (by intro e; exact hov' e))) _ hrec3 rfl
  · rw [World.putObj_heap_other (by omega), Below.heap_setCell _ _ _ _ (fun e => hLd e.symm), k2 s (by omega) (by omega) hrd]
    exact aj.dfr
  · exact World.putObj_heap_same (by simp; omega)
  · intro b cs t hb h1 h2
    have hbs : b ≠ s + 1 := fun e => by have h3 := aj.lop; rw [← e, show W.heap[b]? = _ from hb] at h3; cases h3
    have hB4 : Blk ((w2.setCell ⟨Lb, 0, none⟩ v').putObj (s + 1) (.loop r2)) b cs t := (kL b hb.lt hbs h1 h2).trans hb
    have hB2 : Blk w2 b cs t := (k2 b hb.lt hbs h2).trans hb
    exact ⟨hB4, fun ht => own_ty hown hB2 ht⟩
set_option maxRecDepth 100000 in
set_option maxHeartbeats 2000000 in
theorem ball_any (p : Option Addr) (n cap : Nat) (B0 A0 L0 : Int) (w : World) (F : Int → Option (Nat × Nat)) (hN : NxAt w (.slice p n cap) F) (hF : InL F) (aA aS aR : Addr) (hV : AV w aA aS aR) (B : Int) (hs : List (Nat × Nat)) (hC : Chn F B (B0, A0, L0) hs) (hB : hs ≠ [] → 0 ≤ B ∧ B < 32) :
    Calls Tryd.prog 27 #[.slice p n cap, .agg #[.int .i64 B0, .int .i64 A0, .int .i64 L0]] w (CuPost w B hs) := by
  obtain ⟨i0, hi, hz0, hz1, hz2⟩ := info_parts Tryd.infoCur
  refine (callsIn_wide (n := 9)).1 ?_
  refine callsIn_of_wp_marks Tryd.func27 rfl trivial ?_ rfl
  simp only [Tryd.ntmps27, List.size_toArray, List.length_cons, List.length_nil, Nat.reduceAdd, Nat.reduceSub, Array.replicate_succ, Array.replicate_zero, List.push_toArray, List.append_toArray, List.nil_append, List.cons_append]
  have HN := Lib.hid hN
  have HF := Lib.hid hF
  have HV := Lib.hid hV
  have HC := Lib.hid hC
  have HB := Lib.hid hB
  clear hN hF hV hC hB
  refine wpIn_wide.2 ?_
  go_wp2_with fail
  go_step3
  go_wp2_with fail
  go_step3
  go_wp2_with fail
  ((with_reducible refine (cursors_any (w.heap.size + 1) _).mono ?_))
  rintro e w' ⟨rfl, rfl⟩
  go_wp2_with fail
  refine (wpIn_wide (n := 9)).1 ?_
  obtain ⟨b0, b1, b2, b3, b4, hB1, hsz⟩ := blk5 w #[.int .i64 B0, .int .i64 A0, .int .i64 L0] #[.int .i64 B0, .int .i64 A0, .int .i64 L0, .slice p n cap] #[] #[.slice (some ⟨w.heap.size + 1 + 1, 0, none⟩) 0 0] #[.pointer (some ⟨w.heap.size + 1, 0, none⟩)] 23 56 23 45 85
  generalize (((((w.alloc (.cells #[.int .i64 B0, .int .i64 A0, .int .i64 L0] 23)).alloc (.cells #[.int .i64 B0, .int .i64 A0, .int .i64 L0, .slice p n cap] 56)).alloc (.cells #[] 23)).alloc (.cells #[.slice (some ⟨w.heap.size + 1 + 1, 0, none⟩) 0 0] 45)).alloc (.cells #[.pointer (some ⟨w.heap.size + 1, 0, none⟩)] 85)) = W1 at b0 b1 b2 b3 b4 hB1 hsz ⊢
  refine range_direct (by omega) (gf := 57) (lb := #[.pointer (some ⟨w.heap.size + 1 + 1 + 1 + 1, 0, none⟩)]) rfl (enters_of Tryd.func57 (by kernel_rfl) rfl) ?_
  intro fn r hr
  obtain ⟨s, hs1⟩ : ∃ s, W1.heap.size = s := ⟨_, rfl⟩
  have hown0 : W1.ownsRow w.heap.size 23 3 (.slice (some ⟨w.heap.size + 1 + 1, 0, none⟩) 0 0) 0 [] := ⟨rfl, .inr ⟨w.heap.size + 1 + 1, 0, #[], rfl, by omega, b2, by omega, by unfold maxLen; omega, by simp, rfl⟩⟩
  have hdf : ((W1.alloc (.deferred (some []))).alloc (.loop (r .ready none))).heap[W1.heap.size]? = some (.deferred (some [])) := (Below.heap_alloc _ _ _ (by simp)).trans (World.alloc_heap_new W1 _)
  have hlp : ((W1.alloc (.deferred (some []))).alloc (.loop (r .ready none))).heap[W1.heap.size + 1]? = some (.loop (r .ready none)) := by
    have := World.alloc_heap_new (W1.alloc (.deferred (some []))) (.loop (r .ready none))
    rwa [World.size_alloc] at this
  have aj0 : AJ w W1.heap.size (w.heap.size + 1 + 1 + 1) (r .ready none) [] 0 (.slice (some ⟨w.heap.size + 1 + 1, 0, none⟩) 0 0) ((W1.alloc (.deferred (some []))).alloc (.loop (r .ready none))) :=
    ⟨(b3.alloc _).alloc _, (hown0.alloc _).alloc _, hdf, hlp, bel_al (bel_al hB1 _) _, by omega, by omega⟩
  have bT0 := (b1.alloc (.deferred (some []))).alloc (.loop (r .ready none))
  have bK0 := (b4.alloc (.deferred (some []))).alloc (.loop (r .ready none))
  generalize (W1.alloc (.deferred (some []))).alloc (.loop (r .ready none)) = W0 at aj0 bT0 bK0 ⊢
  rw [hs1] at aj0 hsz ⊢
  have HR := Lib.hid hr
  have HS1 := Lib.hid hs1
  have hsb : w.heap.size + 1 + 1 + 1 + 1 < s := by omega
  have HSZ := Lib.hid hsz
  clear b0 b1 b2 b3 b4 hB1 hown0 hdf hlp hr hs1 hsz
  refine (cursors1 8 (by omega) (w.heap.size + 1) (w.heap.size + 1 + 1 + 1 + 1) s (w.heap.size + 1 + 1 + 1) p n cap B (B0, A0, L0) hs (r .ready none) w W0 F HN.out HF.out aA aS aR HV.out HC.out (fun W' => ∃ lv', AJ w s (w.heap.size + 1 + 1 + 1) (r .done (some (.exit 0))) (cvals B hs) hs.length lv' W') (.slice (some ⟨w.heap.size + 1 + 1, 0, none⟩) 0 0) (by omega) ⟨by omega, by omega, by omega, by omega, by omega⟩ bT0 bK0 aj0 (by simp [Value.ownBlock]) (by simp [Value.ownBlock]) ?_).mono ?_
  · intro j x lv W hx aj
    clear aj0 bT0 bK0
    obtain ⟨q, c, rfl⟩ := own_sl aj.row
    have hjl := (List.getElem?_eq_some_iff.1 hx).1
    have hx2 := HC.out.top x (List.mem_of_getElem? hx)
    obtain ⟨hB0, hB9⟩ := HB.out (by intro e; rw [e] at hjl; simp at hjl)
    have hlen := HC.out.len
    refine yield_direct HR.out aj.lop rfl ?_
    have hlop := (aj.al (.cells #[.int .i64 B, .int .i64 (4096 * B + (x.1 : Int) * 128), .int .i64 (4096 * B + (x.2 : Int) * 128)] 23)).lop
    have bL := blk_putObj (.loop (r .busy none)) (aj.box.alloc (.cells #[.int .i64 B, .int .i64 (4096 * B + (x.1 : Int) * 128), .int .i64 (4096 * B + (x.2 : Int) * 128)] 23)) hlop rfl
    have bX := blk_putObj (.loop (r .busy none)) (Blk.new W #[.int .i64 B, .int .i64 (4096 * B + (x.1 : Int) * 128), .int .i64 (4096 * B + (x.2 : Int) * 128)] 23) hlop rfl
    have row := ownsRow_putObj (aj.row.alloc (.cells #[.int .i64 B, .int .i64 (4096 * B + (x.1 : Int) * 128), .int .i64 (4096 * B + (x.2 : Int) * 128)] 23)) (.loop (r .busy none)) hlop rfl
    have hWl := aj.box.lt
    have hWz := aj.low.size
    have hoX : (Value.slice q j c).ownBlock ≠ some W.heap.size := fun e => by have := own_lt aj.row e; omega
    have hoL := own_ty aj.row aj.box (by decide)
    have HLop := Lib.hid hlop
    obtain ⟨Wb, hWb⟩ : ∃ Wb, (W.alloc (.cells #[.int .i64 B, .int .i64 (4096 * B + (x.1 : Int) * 128), .int .i64 (4096 * B + (x.2 : Int) * 128)] 23)).putObj (s + 1) (.loop (r .busy none)) = Wb := ⟨_, rfl⟩
    have hbz : Wb.heap.size = W.heap.size + 1 := by rw [← hWb]; simp
    have HWb := Lib.hid hWb
    rw [hWb] at bL bX row
    have cL : Wb.cell? ⟨w.heap.size + 1 + 1 + 1, 0, none⟩ = some (.slice q j c) := bL.cell rfl
    have fL := bL.frozen 0
    have cX0 : Wb.cell? ⟨W.heap.size, 0, none⟩ = some (.int .i64 B) := bX.cell rfl
    have cX1 : Wb.cell? ⟨W.heap.size, 1, none⟩ = some (.int .i64 (4096 * B + (x.1 : Int) * 128)) := bX.cell rfl
    have cX2 : Wb.cell? ⟨W.heap.size, 2, none⟩ = some (.int .i64 (4096 * B + (x.2 : Int) * 128)) := bX.cell rfl
    have bLl := bL.lt
    have bXl := bX.lt
    have HAJ := Lib.hid aj
    have HX := Lib.hid hx
    have BL := Lib.hid bL
    have BX := Lib.hid bX
    have ROW := Lib.hid row
    have HOX := Lib.hid hoX
    have HOL := Lib.hid hoL
    have hbz1 : Wb.heap.size ≤ W.heap.size + 1 := by omega
    have hbz2 : W.heap.size + 1 ≤ Wb.heap.size := by omega
    clear hlop hWb aj hx bL bX row hoX hoL hbz
    gi_wp2
    refine ⟨HLop.out, ?_⟩
    rw [HWb.out]
    by_cases h32 : x.2 = 32
    · have hq : ((4096 * B + (x.2 : Int) * 128) == (B + 1) * 4096) = true := by simp; omega
      have hjn : j + 1 = hs.length := by
        rcases Nat.lt_or_ge (j + 1) hs.length with h | h
        · have h1 : hs[j + 1]? = some hs[j + 1] := List.getElem?_eq_getElem h
          have h2 := HC.out.up j x _ HX.out h1
          have h3 := HC.out.top _ (List.mem_of_getElem? h1)
          omega
        · omega
      have HJN := Lib.hid hjn
      clear hjn h32
      gi_wp2_with (gi_at_builtin; refine wpListIn_append_own _ rfl _ _ 45 rfl w.heap.size 23 i0 (.agg #[.int .i64 0, .int .i64 0, .int .i64 0]) 3 24 Tryd.underlying45 hi hz0 hz1 hz2 rfl (by decide) (.slice q j c) j (cvals B (hs.take j)) rfl (ROW.out.alloc _) ⟨Wb.heap.size, 0, none⟩ 1 1 [.int .i64 B, .int .i64 (4096 * B + (x.1 : Int) * 128), .int .i64 (4096 * B + (x.2 : Int) * 128)] rfl rfl (cell_three_new _ _ _ _ _) (by simp [Value.oneCell']) (by unfold maxLen; omega) (by omega) (by simp; omega) ?_; intro v' w2 hown2 hgrow2 _; obtain ⟨q', c', rfl⟩ := own_sl hown2; have bL2 := (BL.out.alloc (.cells #[.int .i64 B, .int .i64 (4096 * B + (x.1 : Int) * 128), .int .i64 (4096 * B + (x.2 : Int) * 128)] 23)).grown hgrow2 (fun e => HOL.out e.symm); have bX2 := (BX.out.alloc (.cells #[.int .i64 B, .int .i64 (4096 * B + (x.1 : Int) * 128), .int .i64 (4096 * B + (x.2 : Int) * 128)] 23)).grown hgrow2 (fun e => HOX.out e.symm); have dL : w2.cell? ⟨w.heap.size + 1 + 1 + 1, 0, none⟩ = some (.slice q j c) := bL2.cell rfl; have gL := bL2.frozen 0; have dX0 : w2.cell? ⟨W.heap.size, 0, none⟩ = some (.int .i64 B) := bX2.cell rfl; have dX2 : w2.cell? ⟨W.heap.size, 2, none⟩ = some (.int .i64 (4096 * B + (x.2 : Int) * 128)) := bX2.cell rfl; have HO2 := Lib.hid hown2; have HG2 := Lib.hid hgrow2; clear bL2 bX2 hown2 hgrow2 cL fL cX0 cX1 cX2)
      have hg := HG2.out
      rw [← HWb.out] at hg
      have hst := aj_step (r2 := r .done (some (.exit 0))) HAJ.out hg HO2.out
      refine ⟨hst.2.2, .inr ⟨rfl, .slice q' (j + 1) c', ?_⟩⟩
      have h5 := hst.1
      rw [← cvals_snoc B hs j x HX.out, show hs.take (j + 1) = hs by rw [HJN.out, List.take_length]] at h5
      rw [← HJN.out]
      exact h5
    · have hq : ((4096 * B + (x.2 : Int) * 128) == (B + 1) * 4096) = false := by simp; omega
      clear h32
      gi_wp2_with (gi_at_builtin; refine wpListIn_append_own _ rfl _ _ 45 rfl w.heap.size 23 i0 (.agg #[.int .i64 0, .int .i64 0, .int .i64 0]) 3 24 Tryd.underlying45 hi hz0 hz1 hz2 rfl (by decide) (.slice q j c) j (cvals B (hs.take j)) rfl (ROW.out.alloc _) ⟨Wb.heap.size, 0, none⟩ 1 1 [.int .i64 B, .int .i64 (4096 * B + (x.1 : Int) * 128), .int .i64 (4096 * B + (x.2 : Int) * 128)] rfl rfl (cell_three_new _ _ _ _ _) (by simp [Value.oneCell']) (by unfold maxLen; omega) (by omega) (by simp; omega) ?_; intro v' w2 hown2 hgrow2 _; obtain ⟨q', c', rfl⟩ := own_sl hown2; have bL2 := (BL.out.alloc (.cells #[.int .i64 B, .int .i64 (4096 * B + (x.1 : Int) * 128), .int .i64 (4096 * B + (x.2 : Int) * 128)] 23)).grown hgrow2 (fun e => HOL.out e.symm); have bX2 := (BX.out.alloc (.cells #[.int .i64 B, .int .i64 (4096 * B + (x.1 : Int) * 128), .int .i64 (4096 * B + (x.2 : Int) * 128)] 23)).grown hgrow2 (fun e => HOX.out e.symm); have dL : w2.cell? ⟨w.heap.size + 1 + 1 + 1, 0, none⟩ = some (.slice q j c) := bL2.cell rfl; have gL := bL2.frozen 0; have dX0 : w2.cell? ⟨W.heap.size, 0, none⟩ = some (.int .i64 B) := bX2.cell rfl; have dX2 : w2.cell? ⟨W.heap.size, 2, none⟩ = some (.int .i64 (4096 * B + (x.2 : Int) * 128)) := bX2.cell rfl; have HO2 := Lib.hid hown2; have HG2 := Lib.hid hgrow2; clear bL2 bX2 hown2 hgrow2 cL fL cX0 cX1 cX2)
      have hg := HG2.out
      rw [← HWb.out] at hg
      have hst := aj_step (r2 := r .ready none) HAJ.out hg HO2.out
      refine ⟨hst.2.2, .inl ⟨rfl, .slice q' (j + 1) c', ?_, hst.2.1⟩⟩
      have h5 := hst.1
      rw [← cvals_snoc B hs j x HX.out] at h5
      exact h5
  · rintro e W ⟨hv, ⟨lv, aj⟩ | ⟨lv, aj⟩⟩
    · refine ⟨hv, .ready, none, by decide, aj.lop, fun rr => ?_⟩
      obtain ⟨q, c, rfl⟩ := own_sl aj.row
      have hLs : w.heap.size + 1 + 1 + 1 ≠ s + 1 := by omega
      have bL5 := blk_putObj (.loop rr) aj.box aj.lop rfl
      have row5 := ownsRow_putObj aj.row (.loop rr) aj.lop rfl
      have dfr5 : (W.putObj (s + 1) (.loop rr)).heap[s]? = some (.deferred (some [])) := (World.putObj_heap_other (by omega)).trans aj.dfr
      have low5 := aj.low.grown (grownBy_putObj' W (s + 1) (.loop rr)) aj.low.size (fun j e => by cases e; exact Nat.le_succ_of_le aj.hs)
      have hss := aj.hs
      generalize W.putObj (s + 1) (.loop rr) = W5 at bL5 row5 dfr5 low5 ⊢
      have cL : W5.cell? ⟨w.heap.size + 1 + 1 + 1, 0, none⟩ = some (.slice q hs.length c) := bL5.cell rfl
      have ROW := Lib.hid row5
      have DFR := Lib.hid dfr5
      have LOW := Lib.hid low5
      clear aj aj0 bT0 bK0 bL5 row5 dfr5 low5
      gi_wp2
      go_wp2
      try rw [Exit.noGoto_ret]
      refine ⟨by simp, .inl ⟨_, _, rfl, run_takeDeferred DFR.out, ?_⟩⟩
      exact ⟨_, results_tmp rfl _ _ _, _, rfl, ownsRow_putObj ROW.out _ DFR.out rfl, LOW.out.trans (belowK_b (w := w) (Nat.le_refl _) _ s _ _ hss DFR.out rfl rfl)⟩
    · refine ⟨hv, .done, some (.exit 0), by decide, aj.lop, fun rr => ?_⟩
      obtain ⟨q, c, rfl⟩ := own_sl aj.row
      have hLs : w.heap.size + 1 + 1 + 1 ≠ s + 1 := by omega
      have bL5 := blk_putObj (.loop rr) aj.box aj.lop rfl
      have row5 := ownsRow_putObj aj.row (.loop rr) aj.lop rfl
      have dfr5 : (W.putObj (s + 1) (.loop rr)).heap[s]? = some (.deferred (some [])) := (World.putObj_heap_other (by omega)).trans aj.dfr
      have low5 := aj.low.grown (grownBy_putObj' W (s + 1) (.loop rr)) aj.low.size (fun j e => by cases e; exact Nat.le_succ_of_le aj.hs)
      have hss := aj.hs
      generalize W.putObj (s + 1) (.loop rr) = W5 at bL5 row5 dfr5 low5 ⊢
      have cL : W5.cell? ⟨w.heap.size + 1 + 1 + 1, 0, none⟩ = some (.slice q hs.length c) := bL5.cell rfl
      have ROW := Lib.hid row5
      have DFR := Lib.hid dfr5
      have LOW := Lib.hid low5
      clear aj aj0 bT0 bK0 bL5 row5 dfr5 low5
      gi_wp2
      go_wp2
      try rw [Exit.noGoto_ret]
      refine ⟨by simp, .inl ⟨_, _, rfl, run_takeDeferred DFR.out, ?_⟩⟩
      exact ⟨_, results_tmp rfl _ _ _, _, rfl, ownsRow_putObj ROW.out _ DFR.out rfl, LOW.out.trans (belowK_b (w := w) (Nat.le_refl _) _ s _ _ hss DFR.out rfl rfl)⟩
end Go.Proofs.YtanccoahpcfbnaaDoor
