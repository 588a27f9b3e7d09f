/-
  Bytes in one block: what a cut of them reads as, what a copy and a clear leave.
-/
import Derived.Test.YtmikkbhillkpkaaDoorArC
import Derived.Lib.SliceRun
import Derived.Laws.BytesString
namespace Go.Proofs.YtmikkbhillkpkaaDoor
open Go.RowKit Go.Lib Go.Shelf

/-- The bytes l laid over bs from place i on. -/
def wrL (bs : List UInt8) (i : Nat) (l : List UInt8) : List UInt8 := bs.take i ++ l ++ bs.drop (i + l.length)
theorem wrL_len (bs : List UInt8) (i : Nat) (l : List UInt8) (h : i + l.length ≤ bs.length) : (wrL bs i l).length = bs.length := by simp [wrL]; omega
theorem wrL_nil (bs : List UInt8) (i : Nat) : wrL bs i [] = bs := by simp [wrL]
theorem wrL_get (bs : List UInt8) (i : Nat) (l : List UInt8) (h : i + l.length ≤ bs.length) (j : Nat) : (wrL bs i l)[j]? = if i ≤ j ∧ j < i + l.length then l[j - i]? else bs[j]? := by
  unfold wrL
  rw [List.append_assoc, List.getElem?_append]
  simp only [List.length_take, Nat.min_eq_left (show i ≤ bs.length by omega)]
  by_cases h1 : j < i
  · rw [if_pos h1, if_neg (by omega), List.getElem?_take, if_pos h1]
  · rw [if_neg h1, List.getElem?_append]
    by_cases h2 : j - i < l.length
    · rw [if_pos h2, if_pos (by omega)]
    · rw [if_neg h2, if_neg (by omega), List.getElem?_drop]
      congr 1
      omega
theorem wrL_snoc (bs : List UInt8) (i : Nat) (l : List UInt8) (x : UInt8) (h : i + l.length < bs.length) : wrL bs i (l ++ [x]) = (wrL bs i l).set (i + l.length) x := by
  apply List.ext_getElem?
  intro j
  rw [wrL_get _ _ _ (by simp; omega), List.getElem?_set, wrL_len _ _ _ (by omega), wrL_get _ _ _ (by omega)]
  simp only [List.length_append, List.length_cons, List.length_nil, Nat.zero_add]
  by_cases h1 : i + l.length = j
  · subst h1
    rw [if_pos (by omega), if_pos rfl, if_pos h]
    simp
  · rw [if_neg h1]
    by_cases h2 : i ≤ j ∧ j < i + l.length
    · rw [if_pos (by omega), if_pos h2, List.getElem?_append_left (by omega)]
    · rw [if_neg (by omega), if_neg h2]
theorem byteCells_get (bs : List UInt8) (j : Nat) : (byteCells bs)[j]? = (bs[j]?).map fun b => Value.int .u8 b.toNat := by simp [byteCells]
theorem byteCells_set (bs : List UInt8) (j : Nat) (x : UInt8) : (byteCells (bs.set j x)) = (byteCells bs).set j (.int .u8 x.toNat) := by simp [byteCells, List.map_set]
theorem byteCells_wrL (bs : List UInt8) (i : Nat) (l : List UInt8) : byteCells (wrL bs i l) = (byteCells bs).take i ++ byteCells l ++ (byteCells bs).drop (i + l.length) := by simp [wrL, byteCells]

/-- Only block g may have turned. -/
def Upd (g : Nat) (w w' : World) : Prop := w.grownBy w' (some g)
theorem Upd.refl (g : Nat) (w : World) : Upd g w w := World.grownBy.refl _ _
theorem Upd.of_below {g : Nat} {w w' : World} (h : Below w.heap.size w w') : Upd g w w' := ⟨h.os, h.tape, h.output, h.size, fun k hk _ => h.block k hk⟩
theorem Upd.trans {g : Nat} {a b c : World} (h : Upd g a b) (k : Upd g b c) : Upd g a c := ⟨k.os.trans h.os, k.tape.trans h.tape, k.output.trans h.output, Nat.le_trans h.size k.size, fun i hi hn => (k.block i (Nat.lt_of_lt_of_le hi h.size) hn).trans (h.block i hi hn)⟩
theorem Upd.below {g B : Nat} {a b c : World} (h : Below B a b) (k : Upd g b c) (hB : B ≤ b.heap.size) (hg : B ≤ g) : Below B a c := h.grown k hB (fun j e => by cases e; exact hg)
theorem Upd.blk {g B : Nat} {w w' : World} {cs : Array Value} {t : TypeId} (k : Upd g w w') (h : Blk w B cs t) (hn : B ≠ g) : Blk w' B cs t := h.grown k (fun e => hn (by simpa using e))
theorem Upd.setRow (g : Nat) (w : World) (cs : Array Value) : Upd g w (w.setRow g cs) := ⟨rfl, rfl, rfl, by simp, fun k _ hk => setRow_other w g k cs (fun e => hk (by simp [e]))⟩
theorem Upd.setCell (g i : Nat) (w : World) (v : Value) : Upd g w (w.setCell ⟨g, i, none⟩ v) := ⟨rfl, rfl, rfl, by simp [World.setCell], fun k _ hk => Below.heap_setCell _ _ _ _ (fun e => hk (by simp [e]))⟩
theorem ArT.other {t : TypeId} {w w' : World} {p g q : Nat} {bs : List UInt8} (h : ArT t w p g bs) (k : Upd q w w') (h1 : p ≠ q) (h2 : g ≠ q) : ArT t w' p g bs := ⟨h.ne, k.blk h.hp h1, k.blk h.hg h2, h.len⟩
theorem ArT.put {t : TypeId} {w : World} {p g : Nat} {bs : List UInt8} (h : ArT t w p g bs) (bs' : List UInt8) (hl : bs'.length = bs.length) : ArT t (w.setRow g (byteCells bs').toArray) p g bs' :=
  ⟨h.ne, by rw [hl]; exact (Upd.setRow g w _).blk h.hp h.ne.symm, setRow_heap w g _ _ _ _ h.hg, by rw [hl]; exact h.len⟩
theorem ArT.set {t : TypeId} {w : World} {p g : Nat} {bs : List UInt8} (h : ArT t w p g bs) (j : Nat) (x : UInt8) : ArT t (w.setCell ⟨g, j, none⟩ (.int .u8 x.toNat)) p g (bs.set j x) :=
  ⟨h.ne, by rw [List.length_set]; exact (Upd.setCell g j w _).blk h.hp h.ne.symm, by
    have := h.hg.set j (.int .u8 (x.toNat : Int))
    rw [byteCells_set]
    simpa using this, by rw [List.length_set]; exact h.len⟩
theorem ArT.cell {t : TypeId} {w : World} {p g : Nat} {bs : List UInt8} (h : ArT t w p g bs) (j : Nat) (hj : j < bs.length) : w.cell? ⟨g, j, none⟩ = some (.int .u8 (bs[j].toNat : Int)) := h.hg.cell (by simp [byteCells, hj])

/-- The cut of k bytes from place i on of N bytes in block g. -/
def cutv (g i k N : Nat) : Value := .slice (some (if N = i then ⟨g, 0, none⟩ else ⟨g, i, none⟩)) k (N - i)
theorem cutv_in (g i k N : Nat) (h : i < N) : cutv g i k N = .slice (some ⟨g, i, none⟩) k (N - i) := by rw [cutv, if_neg (by omega)]
theorem Tryd.und8 : Tryd.prog.underlying 34 = some (.slice 5) := by kernel_rfl
theorem Tryd.elem8 : Tryd.prog.elem 34 = 5 := by kernel_rfl
theorem Tryd.sz8 : (Tryd.prog.info? 5).map (·.size) = some 1 := by kernel_rfl
theorem Tryd.run_sz8 (w : World) : (sizeOf 5).run Tryd.prog w = .ok 1 w := by kernel_rfl
theorem run_cut (g i k N : Nat) (h : i + k ≤ N) (w : World) : (Instr.slice 34 (.slice (some ⟨g, 0, none⟩) N N) (some (.int .i64 (i : Int))) (some (.int .i64 ((i : Int) + (k : Int)))) none).run Tryd.prog w = .ok (cutv g i k N) w := by
  rw [run_slice_lh w _ _ _ _ (by rw [Tryd.elem8]; exact Tryd.und8) .i64 .i64 i ((i : Int) + k) (by omega) (by omega) (by omega), Tryd.elem8, Tryd.run_sz8]
  simp only [Result.andThen, sliced, cutv]
  congr 2
  · by_cases e : N = i <;> simp [e, Addr.add] <;> omega
  · omega
theorem run_cutl (g i N : Nat) (h : i ≤ N) (w : World) : (Instr.slice 34 (.slice (some ⟨g, 0, none⟩) N N) (some (.int .i64 (i : Int))) none none).run Tryd.prog w = .ok (cutv g i (N - i) N) w := by
  rw [run_slice_l w _ _ _ _ (by rw [Tryd.elem8]; exact Tryd.und8) .i64 i (by omega) (by omega), Tryd.elem8, Tryd.run_sz8]
  simp only [Result.andThen, sliced, cutv]
  congr 2
  by_cases e : N = i <;> simp [e, Addr.add] <;> omega

theorem push_fold (ns : List UInt8) (s : ByteArray) : (ns.map fun b : UInt8 => (b.toNat : Int)).foldl (fun r n => r.push (UInt8.ofNat n.toNat)) s = ⟨s.data ++ ns.toArray⟩ := by
  induction ns generalizing s with
  | nil => simp
  | cons b ns ih =>
    rw [List.map_cons, List.foldl_cons, ih]
    simp [ByteArray.push]
/-- A cut of bytes, as a text. -/
theorem run_text {t : TypeId} {w : World} {p g : Nat} {bs : List UInt8} (h : ArT t w p g bs) (i k : Nat) (hk : i + k ≤ bs.length) : (convert 34 9 (cutv g i k bs.length)).run Tryd.prog w = .ok (.string ⟨((bs.drop i).take k).toArray⟩) w := by
  have hl : ((bs.drop i).take k).length = k := by simp; omega
  unfold cutv
  rw [run_convert_bytes_string w _ _ 5 _ _ _ Tryd.und8 (by kernel_rfl) (by kernel_rfl)]
  rw [run_bytesToString w _ _ _ (((bs.drop i).take k).map fun b : UInt8 => (b.toNat : Int)) ?_, push_fold]
  · simp
  · have := run_loadCells_list (P := Tryd.prog) w (if bs.length = i then ⟨g, 0, none⟩ else ⟨g, i, none⟩) (byteCells ((bs.drop i).take k)) ?_
    · rw [byteCells_length, hl] at this
      rw [this]
      simp [byteCells, Function.comp_def]
    · intro j v hv
      rw [byteCells_get] at hv
      have hj : j < k := by
        rcases Nat.lt_or_ge j k with hj | hj
        · exact hj
        · rw [List.getElem?_eq_none (by omega)] at hv; cases hv
      rw [if_neg (by omega)]
      rw [List.getElem?_take, if_pos hj, List.getElem?_drop] at hv
      rw [show (⟨g, i, none⟩ : Addr).add j = ⟨g, i + j, none⟩ by simp [Addr.add]]
      refine h.hg.cell ?_
      simp only [List.getElem?_toArray]
      rw [byteCells_get]
      exact hv
/-- A text copied over bytes. -/
theorem run_cpy {t : TypeId} {w : World} {p g : Nat} {bs : List UInt8} (h : ArT t w p g bs) (i : Nat) (s : ByteArray) (hk : i + s.size ≤ bs.length) (ty : TypeId) : (Builtin.copy_ #[34, 9] ty #[cutv g i (bs.length - i) bs.length, .string s]).run Tryd.prog w = .ok (goInt s.size) (w.setRow g (byteCells (wrL bs i s.data.toList)).toArray) := by
  have hs : s.data.toList.length = s.size := rfl
  by_cases e : bs.length = i
  · have h0 : s.size = 0 := by omega
    have hn : s.data.toList = [] := by rw [← List.length_eq_zero_iff, hs, h0]
    unfold cutv
    rw [run_copy_empty_string w _ _ ty 5 _ _ _ s Tryd.und8 (by kernel_rfl) h0, hn, wrL_nil, h0, setRow_self w g _ _ _ h.hg]
    rfl
  · rw [cutv_in _ _ _ _ (by omega), run_copy_row_string w _ _ ty 5 g i _ _ s _ _ Tryd.und8 Tryd.sz8 h.hg (by omega) (by simp [byteCells_length]; omega), byteCells_wrL, hs]
theorem setCells_row (b : Nat) (t : TypeId) : ∀ (vs : List Value) (o : Nat) (cur : List Value) (w : World), w.heap[b]? = some (.cells cur.toArray t (0, 0)) → o + vs.length ≤ cur.length → w.setCells b o vs = w.setRow b (cur.take o ++ vs ++ cur.drop (o + vs.length)).toArray
  | [], o, cur, w, hb, _ => by
    have : cur.take o ++ [] ++ cur.drop (o + 0) = cur := by simp
    simp only [World.setCells, List.length_nil]
    rw [this, setRow_self w b _ _ _ hb]
  | v :: vs, o, cur, w, hb, hl => by
    simp only [World.setCells]
    have e1 := setCell_eq_setRow w b o cur.toArray t (0, 0) v hb
    have hb' : (w.setCell ⟨b, o, none⟩ v).heap[b]? = some (.cells (cur.set o v).toArray t (0, 0)) := by rw [e1, setRow_heap w b _ _ _ _ hb]; simp
    rw [setCells_row b t vs (o + 1) (cur.set o v) _ hb' (by simp at hl ⊢; omega), e1, setRow_setRow]
    congr 2
    simp only [List.length_cons] at hl ⊢
    rw [List.take_add_one, List.getElem?_set, if_pos rfl, if_pos (by omega), List.take_set_of_le (Nat.le_refl _), List.drop_set_of_lt (by omega), show o + 1 + vs.length = o + (vs.length + 1) by omega]
    simp
/-- Bytes that are cleared. -/
theorem run_clr {t : TypeId} {w : World} {p g : Nat} {bs : List UInt8} (h : ArT t w p g bs) (i k : Nat) (hk : i + k ≤ bs.length) (ty : TypeId) : (Builtin.clear_ #[34] ty #[cutv g i k bs.length]).run Tryd.prog w = .ok (.tuple #[]) (w.setRow g (byteCells (wrL bs i (List.replicate k 0))).toArray) := by
  by_cases e : k = 0
  · subst e
    rw [List.replicate_zero, wrL_nil, setRow_self w g _ _ _ h.hg]
    simp [cutv, Builtin.clear_, run_underlying Tryd.und8]
  · rw [cutv_in _ _ _ _ (by omega), run_clear_slice w _ 5 ty (.int .u8 0) Tryd.und8 (fun w => by kernel_rfl) rfl rfl g i k _ (by omega) (fun j hj => by rw [h.cell (i + j) (by omega)]; rfl) (fun j _ => h.hg.frozen _)]
    rw [setCells_row g 5 _ i (byteCells bs) w h.hg (by simp [byteCells_length]; omega), byteCells_wrL]
    simp [byteCells]
end Go.Proofs.YtmikkbhillkpkaaDoor
