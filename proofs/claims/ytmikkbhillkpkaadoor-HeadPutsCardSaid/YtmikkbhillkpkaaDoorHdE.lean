/-
  A head's bytes, one by one: what the iterator does.
-/
import Derived.Test.YtmikkbhillkpkaaDoorHdD
namespace Go.Proofs.YtmikkbhillkpkaaDoor
open Go.RowKit Go.Lib Go.Shelf
attribute [local go_sem] Oper.semAt_some
set_option linter.unusedSimpArgs false
set_option linter.unusedVariables false

/-- A head's numbers, none below 0. -/
abbrev mkN (K L C E : Nat) : Mk := ⟨K, L, C, E⟩
def nn (K L C E : Nat) : Nat → Nat
  | 0 => K
  | 1 => C
  | 2 => E
  | _ => L
def wid : Nat → Nat
  | 3 => 3
  | _ => 1
/-- All bytes of a head but the last one. -/
def hd7 (K L C E : Nat) : List UInt8 := [181, byteN K 0, byteN C 0, byteN E 0, byteN L 0, byteN L 1, byteN L 2]
/-- A head's bytes. -/
def hd8 (K L C E : Nat) : List UInt8 := hd7 K L C E ++ [xorL (hd7 K L C E)]
def bytesTo (v j : Nat) : List UInt8 := (List.range j).map (byteN v)
theorem bytesTo_succ (v j : Nat) : bytesTo v (j + 1) = bytesTo v j ++ [byteN v j] := by simp [bytesTo, List.range_succ]
theorem bytesTo_len (v j : Nat) : (bytesTo v j).length = j := by simp [bytesTo]
def partsTo (K L C E : Nat) : Nat → List UInt8
  | 0 => [181]
  | 1 => [181, byteN K 0]
  | 2 => [181, byteN K 0, byteN C 0]
  | 3 => [181, byteN K 0, byteN C 0, byteN E 0]
  | _ => hd7 K L C E
theorem partsTo_succ (K L C E k : Nat) (hk : k < 4) : partsTo K L C E k ++ bytesTo (nn K L C E k) (wid k) = partsTo K L C E (k + 1) := by
  match k, hk with
  | 0, _ => rfl
  | 1, _ => rfl
  | 2, _ => rfl
  | 3, _ => rfl
theorem partsTo_len (K L C E k : Nat) : (partsTo K L C E k).length ≤ 7 := by
  match k with
  | 0 => simp [partsTo]
  | 1 => simp [partsTo]
  | 2 => simp [partsTo]
  | 3 => simp [partsTo]
  | _ + 4 => simp [partsTo, hd7]
theorem fld_wid (k : Nat) (hk : k < 4) : ∃ a lo hi : Int, fld k = #[.int .i64 a, .int .i64 (wid k : Int), .int .i64 lo, .int .i64 hi] := by
  match k, hk with
  | 0, _ => exact ⟨_, _, _, rfl⟩
  | 1, _ => exact ⟨_, _, _, rfl⟩
  | 2, _ => exact ⟨_, _, _, rfl⟩
  | 3, _ => exact ⟨_, _, _, rfl⟩
theorem wid_le (k : Nat) : wid k ≤ 3 := by unfold wid; split <;> omega
theorem num_nn (K L C E k : Nat) (hk : k < 4) : num (mkN K L C E) k = (nn K L C E k : Int) := by
  match k, hk with
  | 0, _ => rfl
  | 1, _ => rfl
  | 2, _ => rfl
  | 3, _ => rfl
theorem nn_le (K L C E : Nat) (hK : K ≤ 60) (hL : L ≤ 40000) (hC : C ≤ 3) (hE : E ≤ 255) (k : Nat) : nn K L C E k ≤ 40000 := by
  unfold nn; split <;> omega
theorem Tryd.infoU8 : (Tryd.prog.info? 5).map (fun i => (i.zero, i.size, i.bytes)) = some (some (.int .u8 0), 1, 1) := by kernel_rfl
theorem byte_one (l : List UInt8) : ∀ v ∈ byteCells l, v.oneCell' = true := by
  intro v hv
  simp only [byteCells, List.mem_map] at hv
  obtain ⟨b, _, rfl⟩ := hv
  rfl

/-- The list in its box, the loop's own blocks. -/
structure JB (w : World) (s Pb : Nat) (r : Loop) (l : List UInt8) (W : World) : Prop where
  lf : LF w s r W
  box : ∃ q c, Blk W Pb #[.slice q l.length c] 34 ∧ W.ownsRow w.heap.size 5 1 (.slice q l.length c) l.length (byteCells l)
  hP : w.heap.size ≤ Pb
theorem JB.below {w : World} {s Pb : Nat} {r : Loop} {l : List UInt8} {W W' : World} (h : JB w s Pb r l W) (hb : Below W.heap.size W W') : JB w s Pb r l W' := by
  obtain ⟨q, c, h1, h2⟩ := h.box
  exact ⟨h.lf.below hb, ⟨q, c, h1.below' hb, own_belw h2 hb⟩, h.hP⟩
theorem JB.put {w : World} {s Pb : Nat} {r : Loop} {l : List UInt8} {W : World} (h : JB w s Pb r l W) (r' : Loop) : JB w s Pb r' l (W.putObj (s + 1) (.loop r')) := by
  obtain ⟨q, c, h1, h2⟩ := h.box
  exact ⟨h.lf.put r', ⟨q, c, blk_putObj _ h1 h.lf.lop rfl, ownsRow_putObj h2 _ h.lf.lop rfl⟩, h.hP⟩
theorem own_nty {w : World} {base : Nat} {e : TypeId} {size n : Nat} {v : Value} {xs : List Value} (h : w.ownsRow base e size v n xs) {b : Nat} {cs : Array Value} {t : TypeId} (hb : Blk w b cs t) (ht : t ≠ e) : v.ownBlock ≠ some b := fun ho => by
  rcases h.2 with ⟨rfl, _⟩ | ⟨g, cap, cur, rfl, _, hg, _⟩
  · simp [Value.ownBlock] at ho
  · simp [Value.ownBlock] at ho
    subst ho
    rw [show w.heap[g]? = _ from hb] at hg
    simp at hg
    exact ht hg.2
theorem own_nob {w : World} {base : Nat} {e : TypeId} {size n : Nat} {v : Value} {xs : List Value} (h : w.ownsRow base e size v n xs) {b : Nat} {o : Obj} (hb : w.heap[b]? = some o) (ho : o.isCells = false) : v.ownBlock ≠ some b := fun hv => by
  rcases h.2 with ⟨rfl, _⟩ | ⟨g, cap, cur, rfl, _, hg, _⟩
  · simp [Value.ownBlock] at hv
  · simp [Value.ownBlock] at hv
    subst hv
    rw [hb] at hg
    injection hg with hg
    subst hg
    cases ho
theorem own_bas {w : World} {base : Nat} {e : TypeId} {size n : Nat} {v : Value} {xs : List Value} (h : w.ownsRow base e size v n xs) {k : Nat} (hk : v.ownBlock = some k) : base ≤ k := by
  rcases h.2 with ⟨rfl, _⟩ | ⟨g, cap, cur, rfl, hg, _, _⟩
  · simp [Value.ownBlock] at hk
  · simp [Value.ownBlock] at hk; omega
theorem own_form {w : World} {base : Nat} {e : TypeId} {size n : Nat} {v : Value} {xs : List Value} (h : w.ownsRow base e size v n xs) : ∃ q c, v = .slice q n c := by
  rcases h.2 with ⟨rfl, rfl⟩ | ⟨g, cap, cur, rfl, _⟩
  · exact ⟨none, 0, rfl⟩
  · exact ⟨_, _, rfl⟩
/-- Behind an append to the list, stored back. -/
theorem JB.app {w : World} {s Pb : Nat} {r : Loop} {l : List UInt8} {b : UInt8} {q : Option Addr} {c : Nat} {W w2 : World} {v' : Value} (h : JB w s Pb r l W) (h2 : W.ownsRow w.heap.size 5 1 (.slice q l.length c) l.length (byteCells l))
    (hown : w2.ownsRow w.heap.size 5 1 v' (l.length + 1) (byteCells l ++ byteCells [b])) (hg : W.grownBy w2 (Value.slice q l.length c).ownBlock) :
    JB w s Pb r (l ++ [b]) (w2.setCell ⟨Pb, 0, none⟩ v') ∧ Kp 88 W (w2.setCell ⟨Pb, 0, none⟩ v') := by
  obtain ⟨q0, c0, hP, _⟩ := h.box
  obtain ⟨q', c', rfl⟩ := own_form hown
  have hne := own_nty h2 hP (by decide)
  have bP : Blk w2 Pb #[.slice q0 l.length c0] 34 := hP.grown hg (fun e => hne e.symm)
  have hn1 := own_nob h2 h.lf.dfr rfl
  have hn2 := own_nob h2 h.lf.lop rfl
  have lf2 : LF w s r w2 := ⟨(hg.block s (Array.getElem?_eq_some_iff.1 h.lf.dfr).1 (fun e => hn1 e.symm)).trans h.lf.dfr, (hg.block (s + 1) (Array.getElem?_eq_some_iff.1 h.lf.lop).1 (fun e => hn2 e.symm)).trans h.lf.lop,
    h.lf.low.grown hg h.lf.low.size (fun j e => own_bas h2 e), h.lf.hs⟩
  have hl : (l ++ [b]).length = l.length + 1 := by simp
  refine ⟨⟨lf2.set bP h.hP 0 _, ⟨q', c', ?_, ?_⟩, h.hP⟩, ?_⟩
  · rw [hl]; exact bP.set 0 _
  · rw [hl, byteCells_app]; exact hown.kept (grownBy_setCell' w2 _ _) (.inr (fun e => own_nty hown bP (by decide) e))
  · intro b' cs hb'
    have hb2 : Blk w2 b' cs 88 := hb'.grown hg (fun e => own_nty h2 hb' (by decide) e.symm)
    exact Kp.set bP (by decide) b' cs hb2

theorem stepIn_app_run {F : Fence} {n : Nat} {P : Program} {w : World} {ops : Array Oper} {o : Oper} {a : Act} {K : Act → World → Prop} {Q : Exit → Act → World → Prop} {E : Prop} (hgd : o.guard = none) {s x : Operand} {t : TypeId}
    (hop : o.op = .call { callee := .builtin .append, args := #[s, x], argTypes := #[t, t] }) {v u : Value} (hs : a.eval s = v) (hx : a.eval x = u)
    (h : ∃ v' w', (Builtin.append_ #[t, t] o.type #[v, u]).run P w = .ok v' w' ∧ K (a.put o.dst v') w') :
    if Region.wanted o (yielded ops a.tmps) = true then Oper.wpIn F n P o a w K Q else E := by
  obtain ⟨v', w', hrun, hk⟩ := h
  rw [if_pos (by simp [Region.wanted, hgd])]
  unfold Oper.wpIn
  refine ⟨?_, ?_⟩
  · simp [Oper.about, hop, resolve, Target.leads, Sem.run_pure]
  · rw [Oper.semAt_plain F _ _ (by rw [hop]; intro c hc'; cases hc')]
    simp [execOp, hop, resolve, invoke, builtin, hs, hx, hrun, Result.andThen]
    exact hk
theorem bel_al' {w W : World} (h : Below w.heap.size w W) (o : Obj) : Below w.heap.size w (W.alloc o) := h.alloc h.size o
/-- What a round leaves of blocks from block B on. -/
def Kb (B : Nat) (W W' : World) : Prop := ∀ b, B ≤ b → b < W.heap.size → W'.heap[b]? = W.heap[b]?

set_option maxRecDepth 100000 in
set_option maxHeartbeats 4000000 in
theorem hbytes1 (n : Nat) (hn : 3 ≤ n) (C l K L Cl E : Nat) (hK : K ≤ 60) (hL : L ≤ 40000) (hCl : Cl ≤ 3) (hE : E ≤ 255) (W0 : World) (V : HR) (hV : HV W0 V) (hC : Blk W0 C (mkA (mkN K L Cl E)) 61) (J : Nat → World → Prop) (Jx : World → Prop) (hJ : J 0 W0) (hJk : ∀ j W W', J j W → Below W0.heap.size W W' → J j W') (hJxk : ∀ W W', Jx W → Below W0.heap.size W W' → Jx W')
    (hY : ∀ j W, j < 8 → J j W → YieldAt Fence.wide (n - 1) Tryd.prog l #[.int .i64 (j : Int), .int .u8 (((hd8 K L Cl E).getD j 0).toNat : Int)] W (YP (fun W' => J (j + 1) W' ∧ Kb W0.heap.size W W') (fun W' => Jx W' ∧ Kb W0.heap.size W W'))) :
    CallsIn Fence.wide n Tryd.prog 44 (#[.func (.yield l) #[] #[]] ++ #[.pointer (some ⟨C, 0, none⟩)]) W0 fun e W' => (∃ v, e = .returned v) ∧ (J 8 W' ∨ Jx W') := by
  obtain ⟨i0, hinf, hz0, hz1, hz2⟩ := info_parts Tryd.infoU8
  have HY := Lib.hid hY
  have HJ := Lib.hid hJ
  have HJK := Lib.hid hJk
  have HJX := Lib.hid hJxk
  have HVV := Lib.hid hV
  have c0 : W0.cell? ⟨C, 0, none⟩ = some (.int .i64 (K : Int)) := hC.cell rfl
  have c1 : W0.cell? ⟨C, 1, none⟩ = some (.int .i64 (L : Int)) := hC.cell rfl
  have c2 : W0.cell? ⟨C, 2, none⟩ = some (.int .i64 (Cl : Int)) := hC.cell rfl
  have c3 : W0.cell? ⟨C, 3, none⟩ = some (.int .i64 (E : Int)) := hC.cell rfl
  have hCl0 := hC.lt
  clear hY hJ hJk hJxk hV hC
  have hn1 : 1 ≤ n := by omega
  refine callsIn_of_wp_marks Tryd.func44 rfl trivial ?_ rfl
  simp only [Tryd.ntmps44, List.size_toArray, List.length_cons, List.length_nil, Nat.reduceAdd, Nat.reduceSub, Array.replicate_succ, Array.replicate_zero, List.push_toArray, List.append_toArray, List.nil_append, List.cons_append]
  refine wpIn_wide.2 ?_
  go_wp2_with fail
  ((with_reducible refine (hnumbers_any (mkN K L Cl E) _).mono ?_))
  rintro e w' ⟨rfl, rfl⟩
  go_wp2_with fail
  refine (wpIn_wide (n := n)).1 ?_
  obtain ⟨b0, b1, b2, hB1, hsz⟩ := blk3 W0 #[.int .u8 181] #[.slice (some ⟨W0.heap.size, 0, none⟩) 1 1] (mkA (mkN K L Cl E)) 5 34 61
  have o1 := own_blk (base := W0.heap.size) (n := 1) (size := 1) (cs := byteCells [181]) b0 (Nat.le_refl _) rfl (by unfold maxLen; omega)
  dsimp only [mkA, mkN] at b0 b1 b2 hB1 hsz o1 ⊢
  generalize ((W0.alloc (.cells #[.int .u8 181] 5)).alloc (.cells #[.slice (some ⟨W0.heap.size, 0, none⟩) 1 1] 34)).alloc (.cells #[.int .i64 (K : Int), .int .i64 (L : Int), .int .i64 (Cl : Int), .int .i64 (E : Int)] 61) = W1 at b0 b1 b2 hB1 hsz o1 ⊢
  refine range_direct (by omega) (gf := 48) (lb := #[.pointer (some ⟨W0.heap.size + 1 + 1, 0, none⟩)]) rfl (enters_of Tryd.func48 (by kernel_rfl) rfl) ?_
  intro fn r hr
  obtain ⟨s, hs1⟩ : ∃ s, W1.heap.size = s := ⟨_, rfl⟩
  have jb0 : JB W0 W1.heap.size (W0.heap.size + 1) (r .ready none) [181] ((W1.alloc (.deferred (some []))).alloc (.loop (r .ready none))) := ⟨LF.first W0 W1 hB1 _, ⟨_, _, (b1.alloc _).alloc _, (o1.alloc _).alloc _⟩, by omega⟩
  have bC0 := (b2.alloc (.deferred (some []))).alloc (.loop (r .ready none))
  have hV0 := (HVV.out.below hB1).below (((Below.refl _ W1).alloc (Nat.le_refl _) (.deferred (some []))).alloc (by simp) (.loop (r .ready none)))
  generalize (W1.alloc (.deferred (some []))).alloc (.loop (r .ready none)) = W2 at jb0 bC0 hV0 ⊢
  rw [hs1] at jb0 hsz ⊢
  have HR := Lib.hid hr
  have hss : W0.heap.size + 1 + 1 < s := by omega
  clear b0 b1 b2 hB1 hr hs1 hsz o1 c0 c1 c2 c3
  refine (hnumbers1 (n - 1) (by omega) (W0.heap.size + 1 + 1) (s + 1) (mkN K L Cl E) W2 bC0 hV0.fl (fun k W => JB W0 s (W0.heap.size + 1) (r .ready none) (partsTo K L Cl E k) W) (fun W => False)
    jb0 (fun k W o h => h.below ((Below.refl _ W).alloc (Nat.le_refl _) o)) (fun k W h => h.below (Below.refl _ W).drew) ?_).mono ?_
  · rintro k W hk jb
    clear jb0 bC0 hV0
    refine yield_direct HR.out jb.lf.lop rfl ?_
    have hps := partsTo_succ K L Cl E k hk
    have hpl := partsTo_len K L Cl E k
    have hwd := wid_le k
    have hnn := nn_le K L Cl E hK hL hCl hE k
    obtain ⟨a, lo, hi, hf⟩ := fld_wid k hk
    rw [hf, num_nn K L Cl E k hk]
    generalize nn K L Cl E k = v at hps hnn ⊢
    generalize wid k = d at hps hwd hf ⊢
    have HPS := Lib.hid hps
    have jA := jb.below ((Below.refl _ W).alloc (Nat.le_refl _) (.cells #[.int .i64 a, .int .i64 (d : Int), .int .i64 lo, .int .i64 hi] 70))
    have hlop := jA.lf.lop
    have jB := jA.put (r .busy none)
    have bF := blk_putObj (.loop (r .busy none)) (Blk.new W #[.int .i64 a, .int .i64 (d : Int), .int .i64 lo, .int .i64 hi] 70) hlop rfl
    have kp1 : Kp 88 W ((W.alloc (.cells #[.int .i64 a, .int .i64 (d : Int), .int .i64 lo, .int .i64 hi] 70)).putObj (s + 1) (.loop (r .busy none))) := (Kp.below ((Below.refl _ W).alloc (Nat.le_refl _) _)).trans (Kp.putObj _ hlop rfl)
    have HLop := Lib.hid hlop
    have HJB := Lib.hid jB
    have HBF := Lib.hid bF
    have HKP := Lib.hid kp1
    clear jA hlop jB bF kp1 jb hf hps
    generalize hpre : partsTo K L Cl E k = pre at HPS HJB hpl
    have HPRE := Lib.hid hpre
    clear hpre
    gi_wp2
    refine ⟨HLop.out, ?_⟩
    obtain ⟨Wb, hWb⟩ : ∃ Wb, (W.alloc (.cells #[.int .i64 a, .int .i64 (d : Int), .int .i64 lo, .int .i64 hi] 70)).putObj (s + 1) (.loop (r .busy none)) = Wb := ⟨_, rfl⟩
    rw [hWb] at HJB HBF HKP ⊢
    clear hWb HLop
    have f0 : Wb.cell? ⟨W.heap.size, 0, none⟩ = some (.int .i64 a) := HBF.out.cell rfl
    have f1 : Wb.cell? ⟨W.heap.size, 1, none⟩ = some (.int .i64 (d : Int)) := HBF.out.cell rfl
    have f2 : Wb.cell? ⟨W.heap.size, 2, none⟩ = some (.int .i64 lo) := HBF.out.cell rfl
    have f3 : Wb.cell? ⟨W.heap.size, 3, none⟩ = some (.int .i64 hi) := HBF.out.cell rfl
    gi_wp2
    clear f0 f1 f2 f3
    obtain ⟨Pb, hPb⟩ : ∃ Pb, W0.heap.size + 1 = Pb := ⟨_, rfl⟩
    rw [hPb] at HJB ⊢
    have hmx : Tryd.prog.follows .mixedOrders = true := by kernel_rfl
    have hd1 : 1 ≤ n - 1 - 1 := by omega
    gi_loopw [19] (fun s19 wr => ∃ j : Nat, j ≤ d ∧ s19 = .int .i64 (j : Int) ∧ JB W0 s Pb (r .busy none) (pre ++ bytesTo v j) wr ∧ Kp 88 W wr) (fun s19 _ => d - (intOf s19).toNat)
    case atStart => exact ⟨0, by omega, rfl, by rw [show bytesTo v 0 = [] from rfl, List.append_nil]; exact HJB.out, HKP.out⟩
    case round =>
      obtain ⟨j, hj, rfl, hJj, hKj⟩ := hrel
      clear HJB HBF HKP
      have HKW := Lib.hid hKj
      by_cases hlt : j < d
      · have hlj := bytesTo_len v j
        have hsc := bytesTo_succ v j
        have hlen : (pre ++ bytesTo v j).length ≤ 10 := by simp; omega
        have hls : pre ++ bytesTo v (j + 1) = (pre ++ bytesTo v j) ++ [byteN v j] := by rw [hsc, List.append_assoc]
        generalize pre ++ bytesTo v j = l at hJj hlen hls ⊢
        have HLJ := Lib.hid hls
        have HJ := Lib.hid hJj
        obtain ⟨q, c, bX, oX⟩ := hJj.box
        have p0 : wr.cell? ⟨Pb, 0, none⟩ = some (.slice q l.length c) := bX.cell rfl
        have HBX := Lib.hid (And.intro bX oX)
        have HP := Lib.hid (fun W => part_any a (d : Int) lo hi v j hnn (by omega) W)
        have dlt : decide ((j : Int) < (d : Int)) = true := by simp; omega
        clear hlj hsc hls hJj bX oX hKj
        gi_wp2
        refine wpIn_region_any hmx ?_
        refine anyIn_round rfl (by rfl) _ _ _ _ ?_
        change wpAnyIn _ _ _ _ _ _ _ _ _ (World.drew _)
        refine wpAnyIn_take (i := 1) (v := .func (.func 45) #[.agg #[.int .i64 a, .int .i64 (d : Int), .int .i64 lo, .int .i64 hi]] #[]) rfl rfl (by kernel_rfl) (by kernel_rfl) (by kernel_rfl) (fun _ _ _ h => h) ⟨Or.inl ⟨by rfl, ?_⟩, fun _ => rfl⟩ ?_
        · intro w; go_simp
        refine wpAnyIn_take (i := 2) (v := .int .i64 (v : Int)) rfl rfl (by kernel_rfl) (by kernel_rfl) (by kernel_rfl) (fun _ _ _ h => h) ⟨Or.inl ⟨by rfl, ?_⟩, fun _ => rfl⟩ ?_
        · intro w; go_simp
        refine wpAnyIn_take (i := 3) (v := .int .i64 (j : Int)) rfl rfl (by kernel_rfl) (by kernel_rfl) (by kernel_rfl) (fun _ _ _ h => h) ⟨Or.inl ⟨by rfl, ?_⟩, fun _ => rfl⟩ ?_
        · intro w; go_simp
        refine wpAnyIn_ready (rs := [0, 4]) (by kernel_rfl) (by simp) ?_
        refine AllReadyIn.cons rfl (fun K hK => ?_) (AllReadyIn.cons rfl (fun K hK => ?_) AllReadyIn.nil)
        · go_simp
          refine hK _ _ ?_
          clear hK K
          refine wpAnyIn_ready (rs := [4]) (by kernel_rfl) (by simp) ?_
          refine AllReadyIn.cons rfl (fun K hK => ?_) AllReadyIn.nil
          go_simp
          refine ⟨trivial, ?_⟩
          ((with_reducible refine (callsIn_wide.2 (HP.out _)).mono ?_))
          rintro e u ⟨rfl, hb⟩
          have jU := HJ.out.below ((Below.refl _ wr).drew.trans hb)
          have bU := HBX.out.1.below' ((Below.refl _ wr).drew.trans hb)
          have oU := own_belw HBX.out.2 ((Below.refl _ wr).drew.trans hb)
          have KU := Lib.hid (Kp.below (t := 88) ((Below.refl _ wr).drew.trans hb))
          have p1 : u.cell? ⟨Pb, 0, none⟩ = some (.slice q l.length c) := bU.cell rfl
          have p2 := bU.lt
          have JU := Lib.hid jU
          have OU := Lib.hid oU
          have BU := Lib.hid bU
          clear hb jU bU oU
          refine hK _ _ ?_
          clear hK K
          refine wpAnyIn_ready (rs := [5]) (by kernel_rfl) (by simp) ?_
          refine AllReadyIn.cons rfl (fun K hK => ?_) AllReadyIn.nil
          go_simp
          refine hK _ _ ?_
          clear hK K
          refine wpAnyIn_ready (rs := [6]) (by kernel_rfl) (by simp) ?_
          refine AllReadyIn.cons rfl (fun K hK => ?_) AllReadyIn.nil
          obtain ⟨v', w2, hrun, hown, hg⟩ := run_app_row (P := Tryd.prog) (u.alloc (.cells #[.int .u8 ((byteN v j).toNat : Int)] 5)) 34 Tryd.underlying34 hinf hz0 hz1 hz2 rfl (by decide) (own_belw OU.out ((Below.refl _ u).alloc (Nat.le_refl _) (.cells #[.int .u8 ((byteN v j).toNat : Int)] 5))) (own_blk (base := 0) (B := u.heap.size) (n := 1) (size := 1) (cs := byteCells [byteN v j]) (Blk.new u _ 5) (Nat.zero_le _) rfl (by unfold maxLen; omega)) (byte_one _) (by unfold maxLen; omega) (by omega) (bel_al' JU.out.lf.low (.cells #[.int .u8 ((byteN v j).toNat : Int)] 5)).size
          obtain ⟨q', c', rfl⟩ := own_form hown
          have jS := (JU.out.below ((Below.refl _ u).alloc (Nat.le_refl _) (.cells #[.int .u8 ((byteN v j).toNat : Int)] 5))).app (own_belw OU.out ((Below.refl _ u).alloc (Nat.le_refl _) (.cells #[.int .u8 ((byteN v j).toNat : Int)] 5))) hown hg
          have g1 : w2.cell? ⟨Pb, 0, none⟩ = some (.slice q l.length c) := (((BU.out.alloc (.cells #[.int .u8 ((byteN v j).toNat : Int)] 5)).grown hg (fun e => own_nty (own_belw OU.out ((Below.refl _ u).alloc (Nat.le_refl _) (.cells #[.int .u8 ((byteN v j).toNat : Int)] 5))) (BU.out.alloc (.cells #[.int .u8 ((byteN v j).toNat : Int)] 5)) (by decide) e.symm))).cell rfl
          have g2 := (((BU.out.alloc (.cells #[.int .u8 ((byteN v j).toNat : Int)] 5)).grown hg (fun e => own_nty (own_belw OU.out ((Below.refl _ u).alloc (Nat.le_refl _) (.cells #[.int .u8 ((byteN v j).toNat : Int)] 5))) (BU.out.alloc (.cells #[.int .u8 ((byteN v j).toNat : Int)] 5)) (by decide) e.symm))).frozen 0
          have KA := Lib.hid (Kp.below (t := 88) ((Below.refl _ u).alloc (Nat.le_refl _) (.cells #[.int .u8 ((byteN v j).toNat : Int)] 5)))
          have JS := Lib.hid jS
          clear jS hown hg
          refine stepIn_app_run (s := .tmp 22) (x := .tmp 27) (t := 34) (v := .slice q l.length c) (u := .slice (some ⟨u.heap.size, 0, none⟩) 1 1) (by rfl) (by rfl) (by rfl) (by rfl) ⟨_, w2, hrun, ?_⟩
          refine hK _ _ ?_
          clear hK K
          refine wpAnyIn_ready (rs := [7]) (by kernel_rfl) (by simp) ?_
          refine AllReadyIn.cons rfl (fun K hK => ?_) AllReadyIn.nil
          go_simp
          refine hK _ _ ?_
          clear hK K
          refine wpAnyIn_done (by kernel_rfl) ?_ _
          clear g1 g2 p1 p2 hrun
          gi_wp2
          go_roundw
          case rel => exact ⟨j + 1, by omega, by go_num, by rw [HLJ.out]; exact JS.out.1, HKW.out.trans (KU.out.trans (KA.out.trans JS.out.2))⟩
          case measure => simp [intOf]; omega
        · go_simp
          refine ⟨trivial, ?_⟩
          ((with_reducible refine (callsIn_wide.2 (HP.out _)).mono ?_))
          rintro e u ⟨rfl, hb⟩
          have jU := HJ.out.below ((Below.refl _ wr).drew.trans hb)
          have bU := HBX.out.1.below' ((Below.refl _ wr).drew.trans hb)
          have oU := own_belw HBX.out.2 ((Below.refl _ wr).drew.trans hb)
          have KU := Lib.hid (Kp.below (t := 88) ((Below.refl _ wr).drew.trans hb))
          have p1 : u.cell? ⟨Pb, 0, none⟩ = some (.slice q l.length c) := bU.cell rfl
          have p2 := bU.lt
          have JU := Lib.hid jU
          have OU := Lib.hid oU
          have BU := Lib.hid bU
          clear hb jU bU oU
          refine hK _ _ ?_
          clear hK K
          refine wpAnyIn_ready (rs := [0, 5]) (by kernel_rfl) (by simp) ?_
          refine AllReadyIn.cons rfl (fun K hK => ?_) (AllReadyIn.cons rfl (fun K hK => ?_) AllReadyIn.nil)
          · go_simp
            refine hK _ _ ?_
            clear hK K
            refine wpAnyIn_ready (rs := [5]) (by kernel_rfl) (by simp) ?_
            refine AllReadyIn.cons rfl (fun K hK => ?_) AllReadyIn.nil
            go_simp
            refine hK _ _ ?_
            clear hK K
            refine wpAnyIn_ready (rs := [6]) (by kernel_rfl) (by simp) ?_
            refine AllReadyIn.cons rfl (fun K hK => ?_) AllReadyIn.nil
            obtain ⟨v', w2, hrun, hown, hg⟩ := run_app_row (P := Tryd.prog) (u.alloc (.cells #[.int .u8 ((byteN v j).toNat : Int)] 5)) 34 Tryd.underlying34 hinf hz0 hz1 hz2 rfl (by decide) (own_belw OU.out ((Below.refl _ u).alloc (Nat.le_refl _) (.cells #[.int .u8 ((byteN v j).toNat : Int)] 5))) (own_blk (base := 0) (B := u.heap.size) (n := 1) (size := 1) (cs := byteCells [byteN v j]) (Blk.new u _ 5) (Nat.zero_le _) rfl (by unfold maxLen; omega)) (byte_one _) (by unfold maxLen; omega) (by omega) (bel_al' JU.out.lf.low (.cells #[.int .u8 ((byteN v j).toNat : Int)] 5)).size
            obtain ⟨q', c', rfl⟩ := own_form hown
            have jS := (JU.out.below ((Below.refl _ u).alloc (Nat.le_refl _) (.cells #[.int .u8 ((byteN v j).toNat : Int)] 5))).app (own_belw OU.out ((Below.refl _ u).alloc (Nat.le_refl _) (.cells #[.int .u8 ((byteN v j).toNat : Int)] 5))) hown hg
            have g1 : w2.cell? ⟨Pb, 0, none⟩ = some (.slice q l.length c) := (((BU.out.alloc (.cells #[.int .u8 ((byteN v j).toNat : Int)] 5)).grown hg (fun e => own_nty (own_belw OU.out ((Below.refl _ u).alloc (Nat.le_refl _) (.cells #[.int .u8 ((byteN v j).toNat : Int)] 5))) (BU.out.alloc (.cells #[.int .u8 ((byteN v j).toNat : Int)] 5)) (by decide) e.symm))).cell rfl
            have g2 := (((BU.out.alloc (.cells #[.int .u8 ((byteN v j).toNat : Int)] 5)).grown hg (fun e => own_nty (own_belw OU.out ((Below.refl _ u).alloc (Nat.le_refl _) (.cells #[.int .u8 ((byteN v j).toNat : Int)] 5))) (BU.out.alloc (.cells #[.int .u8 ((byteN v j).toNat : Int)] 5)) (by decide) e.symm))).frozen 0
            have KA := Lib.hid (Kp.below (t := 88) ((Below.refl _ u).alloc (Nat.le_refl _) (.cells #[.int .u8 ((byteN v j).toNat : Int)] 5)))
            have JS := Lib.hid jS
            clear jS hown hg
            refine stepIn_app_run (s := .tmp 22) (x := .tmp 27) (t := 34) (v := .slice q l.length c) (u := .slice (some ⟨u.heap.size, 0, none⟩) 1 1) (by rfl) (by rfl) (by rfl) (by rfl) ⟨_, w2, hrun, ?_⟩
            refine hK _ _ ?_
            clear hK K
            refine wpAnyIn_ready (rs := [7]) (by kernel_rfl) (by simp) ?_
            refine AllReadyIn.cons rfl (fun K hK => ?_) AllReadyIn.nil
            go_simp
            refine hK _ _ ?_
            clear hK K
            refine wpAnyIn_done (by kernel_rfl) ?_ _
            clear g1 g2 p1 p2 hrun
            gi_wp2
            go_roundw
            case rel => exact ⟨j + 1, by omega, by go_num, by rw [HLJ.out]; exact JS.out.1, HKW.out.trans (KU.out.trans (KA.out.trans JS.out.2))⟩
            case measure => simp [intOf]; omega
          · go_simp
            refine hK _ _ ?_
            clear hK K
            refine wpAnyIn_ready (rs := [0]) (by kernel_rfl) (by simp) ?_
            refine AllReadyIn.cons rfl (fun K hK => ?_) AllReadyIn.nil
            go_simp
            refine hK _ _ ?_
            clear hK K
            refine wpAnyIn_ready (rs := [6]) (by kernel_rfl) (by simp) ?_
            refine AllReadyIn.cons rfl (fun K hK => ?_) AllReadyIn.nil
            obtain ⟨v', w2, hrun, hown, hg⟩ := run_app_row (P := Tryd.prog) (u.alloc (.cells #[.int .u8 ((byteN v j).toNat : Int)] 5)) 34 Tryd.underlying34 hinf hz0 hz1 hz2 rfl (by decide) (own_belw OU.out ((Below.refl _ u).alloc (Nat.le_refl _) (.cells #[.int .u8 ((byteN v j).toNat : Int)] 5))) (own_blk (base := 0) (B := u.heap.size) (n := 1) (size := 1) (cs := byteCells [byteN v j]) (Blk.new u _ 5) (Nat.zero_le _) rfl (by unfold maxLen; omega)) (byte_one _) (by unfold maxLen; omega) (by omega) (bel_al' JU.out.lf.low (.cells #[.int .u8 ((byteN v j).toNat : Int)] 5)).size
            obtain ⟨q', c', rfl⟩ := own_form hown
            have jS := (JU.out.below ((Below.refl _ u).alloc (Nat.le_refl _) (.cells #[.int .u8 ((byteN v j).toNat : Int)] 5))).app (own_belw OU.out ((Below.refl _ u).alloc (Nat.le_refl _) (.cells #[.int .u8 ((byteN v j).toNat : Int)] 5))) hown hg
            have g1 : w2.cell? ⟨Pb, 0, none⟩ = some (.slice q l.length c) := (((BU.out.alloc (.cells #[.int .u8 ((byteN v j).toNat : Int)] 5)).grown hg (fun e => own_nty (own_belw OU.out ((Below.refl _ u).alloc (Nat.le_refl _) (.cells #[.int .u8 ((byteN v j).toNat : Int)] 5))) (BU.out.alloc (.cells #[.int .u8 ((byteN v j).toNat : Int)] 5)) (by decide) e.symm))).cell rfl
            have g2 := (((BU.out.alloc (.cells #[.int .u8 ((byteN v j).toNat : Int)] 5)).grown hg (fun e => own_nty (own_belw OU.out ((Below.refl _ u).alloc (Nat.le_refl _) (.cells #[.int .u8 ((byteN v j).toNat : Int)] 5))) (BU.out.alloc (.cells #[.int .u8 ((byteN v j).toNat : Int)] 5)) (by decide) e.symm))).frozen 0
            have KA := Lib.hid (Kp.below (t := 88) ((Below.refl _ u).alloc (Nat.le_refl _) (.cells #[.int .u8 ((byteN v j).toNat : Int)] 5)))
            have JS := Lib.hid jS
            clear jS hown hg
            refine stepIn_app_run (s := .tmp 22) (x := .tmp 27) (t := 34) (v := .slice q l.length c) (u := .slice (some ⟨u.heap.size, 0, none⟩) 1 1) (by rfl) (by rfl) (by rfl) (by rfl) ⟨_, w2, hrun, ?_⟩
            refine hK _ _ ?_
            clear hK K
            refine wpAnyIn_ready (rs := [7]) (by kernel_rfl) (by simp) ?_
            refine AllReadyIn.cons rfl (fun K hK => ?_) AllReadyIn.nil
            go_simp
            refine hK _ _ ?_
            clear hK K
            refine wpAnyIn_done (by kernel_rfl) ?_ _
            clear g1 g2 p1 p2 hrun
            gi_wp2
            go_roundw
            case rel => exact ⟨j + 1, by omega, by go_num, by rw [HLJ.out]; exact JS.out.1, HKW.out.trans (KU.out.trans (KA.out.trans JS.out.2))⟩
            case measure => simp [intOf]; omega
      · obtain rfl : j = d := by omega
        have HJd := Lib.hid hJj
        clear hJj hKj
        have dlt : decide ((j : Int) < (j : Int)) = false := by simp
        gi_wp2
        have hps2 := HPS.out
        have hjd := HJd.out
        rw [hps2] at hjd
        subst hPb
        exact ⟨hjd.lf.lop, true, rfl, hjd.put _, HKW.out.trans (Kp.putObj _ hjd.lf.lop rfl)⟩
  · rintro e W ⟨hv, jb | hx⟩
    · refine ⟨hv, .ready, none, by decide, jb.lf.lop, fun rr => ?_⟩
      have jP := jb.put rr
      obtain ⟨q, c, bP, oP⟩ := jP.box
      rw [show (partsTo K L Cl E 4).length = 7 from rfl] at bP oP
      have p0 : (W.putObj (s + 1) (.loop rr)).cell? ⟨W0.heap.size + 1, 0, none⟩ = some (.slice q 7 c) := bP.cell rfl
      have HJP := Lib.hid jP
      have oP' : (W.putObj (s + 1) (.loop rr)).ownsRow W0.heap.size 5 1 (.slice q 7 c) 7 (byteCells (hd7 K L Cl E)) := oP
      have HOP := Lib.hid oP'
      clear oP'
      have HBP := Lib.hid bP
      clear jb0 bC0 hV0 jb jP bP oP
      generalize W.putObj (s + 1) (.loop rr) = W5 at p0 HJP HOP HBP ⊢
      gi_wp2
      go_wp2
      have hPw : Below W0.heap.size W0 W5 := HJP.out.lf.low
      have HPW := Lib.hid hPw
      clear hPw
      have HEV := Lib.hid (even_any q 7 c (hd7 K L Cl E) W5.drew rfl (by omega) (bl_own HOP.out))
      go_region_held3 (fun w' => w'.cell? ⟨W0.heap.size + 1, 0, none⟩ = some (.slice q 7 c))
        (with_reducible first | exact p0 | exact cell_dr p0 | exact cell_al _ (cell_dr p0) | exact cell_dr (cell_al _ p0) | exact pz | fail)
        (first
          | (go_at_call 46; ((with_reducible refine HEV.out.mono ?_)); rintro e w' ⟨rfl, rfl⟩)
          | (refine step_app_run (s := .tmp 30) (x := .tmp 33) (t := 34) (v := .slice q 7 c) (u := .slice (some ⟨W5.heap.size, 0, none⟩) 1 1) (by rfl) (by rfl) (by rfl) (by rfl) ?_; obtain ⟨v', z', hrun, hown, hg⟩ := run_app_row ((W5.alloc (.cells #[.int .u8 ((xorL (hd7 K L Cl E)).toNat : Int)] 5)).drew) 34 Tryd.underlying34 hinf hz0 hz1 hz2 rfl (by decide) (own_belw HOP.out ((Below.refl _ W5).alloc (Nat.le_refl _) (.cells #[.int .u8 ((xorL (hd7 K L Cl E)).toNat : Int)] 5)).drew) (own_blk (base := 0) (B := W5.heap.size) (n := 1) (size := 1) (cs := byteCells [xorL (hd7 K L Cl E)]) (Blk.new W5 _ 5).drew (Nat.zero_le _) rfl (by unfold maxLen; omega)) (byte_one _) (by unfold maxLen; omega) (by omega) (bel_al' HPW.out (.cells #[.int .u8 ((xorL (hd7 K L Cl E)).toNat : Int)] 5)).size; obtain ⟨q8, c8, rfl⟩ := own_form hown; refine ⟨_, z', hrun, ?_⟩; have HOWN := Lib.hid hown; have BZ := Lib.hid (bel_grown (bel_al' HPW.out (.cells #[.int .u8 ((xorL (hd7 K L Cl E)).toNat : Int)] 5)).drew hg (fun b e => own_bas HOP.out e)); have pz : z'.cell? ⟨W0.heap.size + 1, 0, none⟩ = some (.slice q 7 c) := ((HBP.out.alloc (.cells #[.int .u8 ((xorL (hd7 K L Cl E)).toNat : Int)] 5)).drew.grown hg (fun e => own_nty HOP.out HBP.out (by decide) e.symm)).cell rfl; have DZ : z'.heap[s]? = some (.deferred (some [])) := (hg.block s (by have := (Array.getElem?_eq_some_iff.1 HJP.out.lf.dfr).1; simp; omega) (fun e => own_nob HOP.out HJP.out.lf.dfr rfl e.symm)).trans ((Below.heap_alloc W5 _ _ (Array.getElem?_eq_some_iff.1 HJP.out.lf.dfr).1).trans HJP.out.lf.dfr); clear hown hg hrun)
          | fail)
      go_wp2_with fail
      refine (wpIn_wide (n := n)).1 ?_
      have own8 : z'.ownsRow W0.heap.size 5 1 (.slice q8 8 c8) 8 (byteCells (hd8 K L Cl E)) := by
        have h := HOWN.out
        rw [← byteCells_app] at h
        exact h
      obtain ⟨h80, h81⟩ | ⟨g, cap, cur, hv8, hgB, hgb, _, _, _, htk⟩ := own8.2
      · cases h81
      simp at hv8
      obtain ⟨rfl, rfl⟩ := hv8
      have hj0 : J 0 z' := HJK.out 0 _ _ HJ.out BZ.out
      have hsl : s < W5.heap.size := (Array.getElem?_eq_some_iff.1 HJP.out.lf.dfr).1
      have hdf : z'.heap[s]? = some (.deferred (some [])) := DZ
      have hgl : g < z'.heap.size := (Array.getElem?_eq_some_iff.1 hgb).1
      have hslz : s < z'.heap.size := (Array.getElem?_eq_some_iff.1 hdf).1
      have HTK := Lib.hid htk
      have HJ0 := Lib.hid hj0
      have HGB := Lib.hid hgb
      have HDF := Lib.hid hdf
      have HSS := Lib.hid HJP.out.lf.hs
      clear own8 HOWN BZ DZ pz HJP HOP HBP HPW HEV hj0 hdf hgb htk p0 HVV
      simp only [Nat.reduceAdd]
      gi_loopw [36] (fun s36 wr => ∃ j : Nat, j ≤ 8 ∧ s36 = .int .i64 (j : Int) ∧ J j wr ∧ wr.heap[g]? = some (.cells cur 5 (0, 0)) ∧ wr.heap[s]? = some (.deferred (some []))) (fun s36 _ => 8 - (intOf s36).toNat)
      case atStart => exact ⟨0, by omega, rfl, HJ0.out, HGB.out, HDF.out⟩
      case round =>
        obtain ⟨j, hj, rfl, hJj, hG, hD⟩ := hrel
        clear HJ0 HGB HDF
        have HG := Lib.hid hG
        have HD := Lib.hid hD
        by_cases hlt : j < 8
        · have hl8 : (hd8 K L Cl E).length = 8 := rfl
          obtain ⟨b, hb⟩ : ∃ b, (hd8 K L Cl E)[j]? = some b := ⟨_, List.getElem?_eq_getElem (by rw [hl8]; exact hlt)⟩
          have hcj : wr.cell? ⟨g, j, none⟩ = some (.int .u8 (b.toNat : Int)) := by
            have h1 : (byteCells (hd8 K L Cl E))[j]? = some (.int .u8 (b.toNat : Int)) := by rw [byteCells_at, hb]; rfl
            rw [← HTK.out, List.getElem?_take] at h1
            rw [if_pos (by omega)] at h1
            exact Blk.cell (show Blk wr g cur _ from HG.out) (by simpa using h1)
          obtain ⟨fn2, tmps, assign, body, hy, hR2⟩ := HY.out j wr hlt hJj
          rw [show (hd8 K L Cl E).getD j 0 = b by simp [List.getD, hb]] at hy
          have i1 : (0 : Int) ≤ (j : Int) := by omega
          have i2 : (j : Int) < 8 := by omega
          clear hb hG hD hJj hl8
          gi_wp2
          refine hR2.mono ?_
          rintro ee W3 ⟨bo, rfl, hbo⟩
          cases bo
          · have HX := Lib.hid (show Jx W3 ∧ Kb W0.heap.size wr W3 from hbo)
            have hsw : s < wr.heap.size := (Array.getElem?_eq_some_iff.1 HD.out).1
            have HD3 := Lib.hid ((HX.out.2 s HSS.out hsw).trans HD.out)
            clear hbo hy hR2 hcj
            gi_wp2
            try rw [Exit.noGoto_ret]
            refine ⟨by simp, .inl ⟨_, _, rfl, run_takeDeferred HD3.out, ?_⟩⟩
            exact ⟨_, results_none rfl _ _ _, ⟨_, rfl⟩, .inr (HJX.out _ _ HX.out.1 (belowK_b (w := W0) (Nat.le_refl _) _ s _ _ HSS.out HD3.out rfl rfl))⟩
          · have HX := Lib.hid (show J (j + 1) W3 ∧ Kb W0.heap.size wr W3 from hbo)
            have hgw : g < wr.heap.size := (Array.getElem?_eq_some_iff.1 HG.out).1
            have hsw : s < wr.heap.size := (Array.getElem?_eq_some_iff.1 HD.out).1
            clear hbo hy hR2 hcj
            gi_wp2
            go_roundw
            case rel => exact ⟨j + 1, by omega, by go_num, HX.out.1, (HX.out.2 g hgB hgw).trans HG.out, (HX.out.2 s HSS.out hsw).trans HD.out⟩
            case measure => simp [intOf]; omega
        · obtain rfl : j = 8 := by omega
          have HJ8 := Lib.hid hJj
          clear hG hD hJj
          gi_wp2
          try rw [Exit.noGoto_normal]
          refine ⟨by simp, .inl ⟨_, _, rfl, run_takeDeferred HD.out, ?_⟩⟩
          exact ⟨_, results_none rfl _ _ _, ⟨_, rfl⟩, .inl (HJK.out 8 _ _ HJ8.out (belowK_b (w := W0) (Nat.le_refl _) _ s _ _ HSS.out HD.out rfl rfl))⟩
    · exact hx.elim
end Go.Proofs.YtmikkbhillkpkaaDoor
