/-
  arena: Load.
-/
import Derived.Test.YtmikkbhillkpkaaDoorArH
namespace Go.Proofs.YtmikkbhillkpkaaDoor
open Go.RowKit Go.Lib Go.Shelf
attribute [local go_sem] Oper.semAt_some

theorem or_u32 (a b : Nat) (ha : a < 4294967296) (hb : b < 4294967296) : bits .or .u32 (a : Int) (b : Int) = ((a ||| b : Nat) : Int) := by
  have hx : a ||| b < 2 ^ 32 := Nat.or_lt_two_pow (by omega) (by omega)
  have h1 : (BitVec.ofInt 32 (a : Int)).toNat = a := by
    rw [BitVec.ofInt_natCast, BitVec.toNat_ofNat]; exact Nat.mod_eq_of_lt (by omega)
  have h2 : (BitVec.ofInt 32 (b : Int)).toNat = b := by
    rw [BitVec.ofInt_natCast, BitVec.toNat_ofNat]; exact Nat.mod_eq_of_lt (by omega)
  show IntKind.u32.wrap ((BitVec.ofInt 32 (a : Int) ||| BitVec.ofInt 32 (b : Int)).toNat : Int) = _
  rw [BitVec.toNat_or, h1, h2, IntKind.wrap_u32]
  omega
theorem or_u32m (a y m : Nat) (ha : a < 4294967296) (hb : y * m < 4294967296) : bits .or .u32 (a : Int) ((y : Int) * (m : Int)) = ((a ||| y * m : Nat) : Int) := by
  rw [← or_u32 a (y * m) ha hb, Int.natCast_mul]
/-- What some bytes make, each at its place in a word. -/
def wordP (xs : List (Nat × UInt8)) : Nat := xs.foldl (fun a x => Nat.lor a (x.2.toNat * 256 ^ (x.1 % 4))) 0
theorem wordP_snoc (xs : List (Nat × UInt8)) (x : Nat × UInt8) : wordP (xs ++ [x]) = Nat.lor (wordP xs) (x.2.toNat * 256 ^ (x.1 % 4)) := by simp [wordP]
theorem part_lt (y j : Nat) (hy : y < 256) (hj : j < 4) : y * 256 ^ j < 2 ^ 32 := by
  match j, hj with
  | 0, _ => omega
  | 1, _ => omega
  | 2, _ => omega
  | 3, _ => omega
theorem wordP_lt (xs : List (Nat × UInt8)) : wordP xs < 4294967296 := by
  have : ∀ n (ys : List (Nat × UInt8)), ys.length = n → wordP ys < 2 ^ 32 := by
    intro n
    induction n with
    | zero => intro ys h; rw [List.length_eq_zero_iff.1 h]; decide
    | succ n ih =>
      intro ys h
      rcases List.eq_nil_or_concat ys with e | ⟨zs, z, e⟩
      · subst e; decide
      · rw [List.concat_eq_append] at e
        subst e
        rw [wordP_snoc]
        exact Nat.or_lt_two_pow (ih zs (by simpa using h)) (part_lt _ _ z.2.toNat_lt (Nat.mod_lt _ (by omega)))
  exact this _ xs rfl
/-- The word of the four bytes from place i on. -/
def word4 (bs : List UInt8) (i : Nat) : Nat := (bs.getD i 0).toNat + 256 * (bs.getD (i + 1) 0).toNat + 65536 * (bs.getD (i + 2) 0).toNat + 16777216 * (bs.getD (i + 3) 0).toNat
theorem lor_add (a y : Nat) (k : Nat) (h : a < 2 ^ k) : Nat.lor a (y * 2 ^ k) = a + y * 2 ^ k := by
  have := Nat.shiftLeft_add_eq_or_of_lt h y
  rw [Nat.shiftLeft_eq] at this
  show a ||| (y * 2 ^ k) = _
  rw [Nat.or_comm, ← this, Nat.add_comm]
theorem wordP_all (bs : List UInt8) (i : Nat) : wordP (bseg bs i 4) = word4 bs i := by
  have e : bseg bs i 4 = [(0, bs.getD (i + 0) 0), (1, bs.getD (i + 1) 0), (2, bs.getD (i + 2) 0), (3, bs.getD (i + 3) 0)] := rfl
  rw [e]
  simp only [wordP, List.foldl_cons, List.foldl_nil, word4, Nat.add_zero]
  have h0 := (bs.getD i 0).toNat_lt
  have h1 := (bs.getD (i + 1) 0).toNat_lt
  have h2 := (bs.getD (i + 2) 0).toNat_lt
  generalize (bs.getD i 0).toNat = a at *
  generalize (bs.getD (i + 1) 0).toNat = b at *
  generalize (bs.getD (i + 2) 0).toNat = c at *
  generalize (bs.getD (i + 3) 0).toNat = d at *
  have e0 : Nat.lor 0 (a * 256 ^ (0 % 4)) = a := by show 0 ||| _ = _; simp
  rw [e0]
  have e1 := lor_add a b 8 (by omega)
  have e2 := lor_add (a + b * 2 ^ 8) c 16 (by omega)
  have e3 := lor_add (a + b * 2 ^ 8 + c * 2 ^ 16) d 24 (by omega)
  rw [show 256 ^ (1 % 4) = 2 ^ 8 by rfl, e1, show 256 ^ (2 % 4) = 2 ^ 16 by rfl, e2, show 256 ^ (3 % 4) = 2 ^ 24 by rfl, e3]
  omega
theorem load_end {w W : World} {g i a b c c' : Nat} {pre : List (Nat × UInt8)} {B C : Nat} {act : Act} {v : Int} (hw : Blk W b #[.int .u32 (c : Int)] 125) (hs : wordP pre = c') (ha : Blk W a #[.int .i64 (i : Int)] 3) (hB : Below w.heap.size w W)
    (hv : v = (c' : Int)) (hab : a ≠ b) (hC : C ≠ b) (hg : g ≠ b) (hb : w.heap.size ≤ b) :
    ownPostG B (KS [C, g]) (fun pre W => Blk W b #[.int .u32 (wordP pre : Int)] 125 ∧ Blk W a #[.int .i64 (i : Int)] 3 ∧ Below w.heap.size w W) (fun _ _ _ => False) pre W .normal act (W.setCell ⟨b, 0, none⟩ (.int .u32 v)).drew := by
  have hk : KS [C, g] W (W.setCell ⟨b, 0, none⟩ (.int .u32 v)) := KS.setCell W b 0 _ (fun i hi => by simp at hi; omega)
  subst hv hs
  exact ⟨((KeepsOthers.setCell _ _ _).trans (KeepsOthers.drew _)).from _, ⟨hk.1, hk.2⟩, (hw.set 0 _).drew, (ha.other hab _ _).drew, (hB.setCell (p := ⟨b, 0, none⟩) hb _).drew⟩

end Go.Proofs.YtmikkbhillkpkaaDoor
