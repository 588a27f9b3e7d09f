/-
  hole.look, for every list and line: a finder of a table's lines that are kept, or none; what lay in memory stays.
-/
import Derived.Test.YtanccoahpcfbnaaDoorMarksE
import Derived.Laws.Tables
import Derived.Laws.Rows
import Derived.OwnWalk
namespace Go.Proofs.YtanccoahpcfbnaaDoor
open Go.RowKit Go.Lib

/-- A finder's cells: of each line whether it is kept, and the line it begins from. -/
def fcells (q : Nat → Bool) (f : Int) : Array Value := ((List.range 32).map (fun i => Value.bool (q i)) ++ [Value.int .i64 f]).toArray
theorem fcells_size (q : Nat → Bool) (f : Int) : (fcells q f).size = 33 := by simp [fcells]
theorem fcells_get (q : Nat → Bool) (f : Int) (i : Nat) (hi : i < 32) : (fcells q f)[i]? = some (.bool (q i)) := by
  simp [fcells, List.getElem?_append, hi]
theorem fcells_from (q : Nat → Bool) (f : Int) : (fcells q f)[32]? = some (.int .i64 f) := by simp [fcells]
theorem fcells_congr (q q' : Nat → Bool) (f : Int) (h : ∀ i, i < 32 → q i = q' i) : fcells q f = fcells q' f := by
  unfold fcells
  congr 2
  exact List.map_congr_left (fun i hi => by rw [h i (by simpa using hi)])
theorem fcells_set (q : Nat → Bool) (f : Int) (i : Nat) (hi : i < 32) : (fcells q f).setIfInBounds i (.bool true) = fcells (fun j => if j = i then true else q j) f := by
  apply Array.ext_getElem?
  intro j
  rw [Array.getElem?_setIfInBounds]
  by_cases h : i = j
  · subst h
    rw [if_pos rfl, if_pos (by rw [fcells_size]; omega), fcells_get _ _ _ hi]
    simp
  · rw [if_neg h]
    by_cases hj : j < 32
    · rw [fcells_get _ _ _ hj, fcells_get _ _ _ hj]
      simp [Ne.symm h]
    · by_cases hj2 : j = 32
      · subst hj2; rw [fcells_from, fcells_from]
      · rw [Array.getElem?_eq_none (by rw [fcells_size]; omega), Array.getElem?_eq_none (by rw [fcells_size]; omega)]
theorem fcells_one (q : Nat → Bool) (f : Int) : (fcells q f).all (·.oneCell') = true := by
  simp [fcells, Value.oneCell']

theorem Tryd.infoFinder : (Tryd.prog.info? 77).map (·.size) = some 33 := by kernel_rfl

theorem below_row {B g : Nat} {w0 w : World} (hb : Below B w0 w) (hBg : B ≤ g) (cs : Array Value) : Below B w0 (w.setRow g cs) := hb.trans ⟨rfl, rfl, rfl, by simp, fun k hk => setRow_other _ _ _ _ (by omega)⟩
theorem grownBy_set (W : World) (b k : Nat) (v : Value) : W.grownBy (W.setCell ⟨b, k, none⟩ v) (some b) := ⟨rfl, rfl, rfl, (KeepsWalks.setCell W _ v).size, fun _ _ hk => Below.heap_setCell _ _ _ _ (fun e => hk (by rw [e]))⟩
/-- Two results, the first one in memory. -/
theorem res_cell_tmp {P : Program} {fn : Func} {p q : Tmp} {ty : TypeId} (h : fn.results = #[.cell p ty, .tmp q]) (tmps : Array Value) (w : World) (g : Nat) (v v2 : Value)
    (hq : tmps.getD q undef = v2) (hp : tmps.getD p undef = .pointer (some ⟨g, 0, none⟩)) (hl : (loadVar ty ⟨g, 0, none⟩).run P w = .ok v w) : (results fn tmps).run P w = .ok (.tuple #[v, v2]) w := by
  subst hq
  have hp' : tmps[p]?.getD undef = .pointer (some ⟨g, 0, none⟩) := by simpa using hp
  simp [results, h, hp', asAddr, hl]
/-- A whole struct stored into a block that is new. -/
theorem wpList_store_new {P : Program} {ops : Array Oper} {rest : List Oper} {op : Oper} {a : Act} {w : World} {Q : Exit → Act → World → Prop} (hgd : op.guard = none) (ty : TypeId) (x y : Operand) (ho : op.op = .store ty x y)
    (old new : Array Value) (t : TypeId) (hx : a.eval x = .pointer (some ⟨w.heap.size, 0, none⟩)) (hy : a.eval y = .agg new) (hi : (P.info? ty).map (·.size) = some new.size) (hold : old.size = new.size) (h1 : new.all (·.oneCell') = true)
    (h : ∀ W2 : World, Blk W2 w.heap.size new t → (∀ B cs t', Blk w B cs t' → Blk W2 B cs t') → Below w.heap.size w W2 → W2.heap.size = w.heap.size + 1 → wpList P ops Q rest (a.put op.dst undef) W2) :
    wpList P ops Q (op :: rest) a (w.alloc (.cells old t)) := by
  have hg := heap_alloc_new w (.cells old t)
  refine wpList_store_row hgd ty x y ho w.heap.size new hx hy t old hg hi hold h1 (h _ (setRow_heap _ _ _ _ _ _ hg) ?_ ?_ (by simp))
  · intro B cs t' hb
    exact (setRow_other _ _ _ _ (by have := hb.lt; omega)).trans (hb.alloc _)
  · exact below_row ((Below.refl _ w).alloc (Nat.le_refl _) _) (Nat.le_refl _) _
/-- A whole struct stored into a block that is there. -/
theorem wpList_store_blk {P : Program} {ops : Array Oper} {rest : List Oper} {op : Oper} {a : Act} {w : World} {Q : Exit → Act → World → Prop} (hgd : op.guard = none) (ty : TypeId) (x y : Operand) (ho : op.op = .store ty x y)
    (g : Nat) (old new : Array Value) (t : TypeId) (hg : Blk w g old t) (hx : a.eval x = .pointer (some ⟨g, 0, none⟩)) (hy : a.eval y = .agg new) (hi : (P.info? ty).map (·.size) = some new.size) (hold : old.size = new.size) (h1 : new.all (·.oneCell') = true)
    (h : ∀ W2 : World, Blk W2 g new t → (∀ B cs t', B ≠ g → Blk w B cs t' → Blk W2 B cs t') → (∀ n, n ≤ g → Below n w W2) → W2.heap.size = w.heap.size → wpList P ops Q rest (a.put op.dst undef) W2) :
    wpList P ops Q (op :: rest) a w :=
  wpList_store_row hgd ty x y ho g new hx hy t old hg hi hold h1 (h _ (setRow_heap _ _ _ _ _ _ hg) (fun B cs t' hne hb => (setRow_other _ _ _ _ hne).trans hb) (fun n hn => below_row (Below.refl n w) hn _) (by simp))
theorem vals_get (xs : List (Fin 32)) (j : Nat) (hj : j < xs.length) : (vals xs)[j]? = some (.int .i64 ((xs[j].val : Nat) : Int)) := by simp [vals, hj]
/-- Is line i among them? -/
def memB (l : List (Fin 32)) (i : Nat) : Bool := l.any fun x => x.val == i
theorem memB_snoc (l : List (Fin 32)) (x : Fin 32) : (fun j => if j = x.val then true else memB l j) = memB (l ++ [x]) := by
  funext j
  simp only [memB, List.any_append, List.any_cons, List.any_nil, Bool.or_false]
  by_cases h : j = x.val
  · simp [h]
  · simp [h, Ne.symm h]
theorem memB_kept (z : Nat → Int) (i : Nat) (hi : i < 32) : memB (keptL z 32) i = keptZ z i := by
  rw [Bool.eq_iff_iff]
  simp only [memB, List.any_eq_true, beq_iff_eq, keptL, List.mem_filter, seg, List.mem_map, List.mem_range, Nat.zero_add]
  constructor
  · rintro ⟨x, ⟨_, hk⟩, rfl⟩; exact hk
  · intro hk
    exact ⟨Fin.ofNat 32 i, ⟨⟨i, hi, rfl⟩, by rw [fin_val i hi]; exact hk⟩, fin_val i hi⟩

set_option maxRecDepth 100000 in
set_option maxHeartbeats 1000000 in
theorem look_yes (b o cap : Nat) (z : Nat → Int) (f : Int) (w : World) (hT : Tab w b o z) (hr : rightT z = true) :
    Calls Tryd.prog 46 #[.slice (some ⟨b, o, none⟩) 32 cap, .int .i64 f] w fun e w' => e = .returned (.tuple #[.agg (fcells (keptZ z) f), .bool true]) ∧ Below w.heap.size w w' := by
  have HT := Lib.hid hT
  have HR := Lib.hid hr
  clear hT hr
  go_enter Tryd.func46, Tryd.ntmps46
  go_wp2_with (first
    | (go_at_call 41; ((with_reducible refine (right_yes b o cap z _ ?_ HR.out).mono ?_)); exact HT.out.below ((Below.refl _ w).alloc (Nat.le_refl _) _); rintro e w1 ⟨rfl, hb1⟩; have hB1 := bstep ((Below.refl _ w).alloc (Nat.le_refl _) _) hb1; have bR : Blk w1 w.heap.size (fcells (fun _ => false) 0) 77 := (Blk.new w _ _).below' hb1; have HB1 := Lib.hid hB1; clear hb1 hB1)
    | (refine wpList_store_new rfl 77 _ _ rfl _ (fcells (fun _ => false) f) 77 rfl rfl Tryd.infoFinder rfl (fcells_one _ _) ?_; intro W2 bF bK hB2 hs2; have HB2 := Lib.hid (bstep HB1.out hB2); have bR2 := bK _ _ _ bR; have HS2 := Lib.hid hs2; clear bK hB2 hs2)
    | (go_at_call 58; ((with_reducible refine (lines_yes b o cap z _ (HT.out.below HB2.out) HR.out).mono ?_)); rintro e w3 ⟨v, rfl, ⟨g, rfl, hown⟩, hb3⟩; have HB3 := Lib.hid (bstep HB2.out hb3); have bF3 := bF.below' hb3; have bR3 := bR2.below' hb3; have HO := Lib.hid hown; have HH := Lib.hid (Nat.le_trans HB2.out.size (Nat.le_refl _)); clear hown hb3))
  have hF : w.heap.size < w1.heap.size := bR.lt
  have hgF : w1.heap.size < g := by
    rcases HO.out.2 with ⟨h, _⟩ | ⟨g', _, _, hv, hg, _⟩
    · cases h
    · simp at hv
      have := HS2.out
      omega
  have hLlen : (keptL z 32).length ≤ 32 := keptL_len z 32
  have hfin : fcells (memB (keptL z 32)) f = fcells (keptZ z) f := fcells_congr _ _ f (fun i hi => memB_kept z i hi)
  have HFIN := Lib.hid hfin
  clear hfin bR bF bR2 HS2 HH HT HR
  generalize keptL z 32 = L at HO HFIN hLlen ⊢
  go_loopw [18] (fun i wr => ∃ j : Nat, j ≤ L.length ∧ i = .int .i64 (j : Int) ∧ Blk wr w1.heap.size (fcells (memB (L.take j)) f) 77 ∧ Blk wr w.heap.size (fcells (fun _ => false) 0) 77 ∧ wr.ownsRow W2.heap.size 3 1 (.slice (some ⟨g, 0, none⟩) L.length 32) L.length (vals L) ∧ Below w.heap.size w wr) (fun i _ => 64 - (intOf i).toNat)
  case atStart => exact ⟨0, Nat.zero_le _, rfl, bF3, bR3, HO.out, HB3.out⟩
  case round =>
    obtain ⟨j, hj, rfl, gF, gR, gO, gB⟩ := hrel
    have GO := Lib.hid gO
    have GB := Lib.hid gB
    clear HO HB3 bF3 bR3 gO gB
    by_cases hlt : j < L.length
    · have cl := row_cell GO.out j _ (vals_get L j hlt)
      have hx : (L[j]).val < 32 := (L[j]).isLt
      have hts : L.take (j + 1) = L.take j ++ [L[j]] := List.take_succ_eq_append_getElem hlt
      have HTS := Lib.hid hts
      clear hts
      generalize L[j] = x at cl hx HTS
      have cF := gF.cell (fcells_get _ f x.val hx)
      have fF := gF.frozen x.val
      go_wp2
      go_roundw
      case rel =>
        refine ⟨j + 1, by omega, by go_num, ?_, gR.other (by omega) _ _, GO.out.kept (grownBy_set _ _ _ _) (.inr (by show some g ≠ some w1.heap.size; intro e; injection e; omega)), GB.out.setCell (p := ⟨w1.heap.size, x.val, none⟩) (by simp; omega) _⟩
        rw [HTS.out, ← memB_snoc, ← fcells_set _ _ _ hx]
        exact gF.set x.val _
      case measure => simp [intOf]; omega
    · obtain rfl : j = L.length := by omega
      rw [List.take_length] at gF
      rw [HFIN.out] at gF
      go_wp2_with (first
        | (refine wpList_load_row rfl 77 _ rfl _ rfl 77 _ (0, 0) _ gF Tryd.underlying77 rfl (by rw [fcells_size]; exact Tryd.infoFinder) ?_)
        | (refine wpList_store_blk rfl 77 _ _ rfl _ _ _ 77 gR rfl rfl (by rw [fcells_size]; exact Tryd.infoFinder) (by rw [fcells_size, fcells_size]) (fcells_one _ _) ?_; intro W4 bR4 bK4 hB4 hs4; have HB4 := Lib.hid (GB.out.trans (hB4 _ (Nat.le_refl _))); clear bK4 hB4 hs4))
      have hrow := run_loadVar_row (P := Tryd.prog) W4 w.heap.size 77 77 _ (0, 0) _ bR4 Tryd.underlying77 rfl (by rw [fcells_size]; exact Tryd.infoFinder)
      exact bodyPost_ret (v := .tuple #[.agg (fcells (keptZ z) f), .bool true]) (res_cell_tmp rfl _ _ _ _ _ rfl rfl hrow) rfl ⟨rfl, HB4.out⟩
end Go.Proofs.YtanccoahpcfbnaaDoor
