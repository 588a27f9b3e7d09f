/-
  selionlaw03's calls and what they answer, in plain words.
-/
import Derived.Test.YtchaojdjgbeepaaDoorArJ
namespace Go.Proofs.YtchaojdjgbeepaaDoor
open Go.RowKit Go.Lib Go.Shelf

theorem ArT.sc {t : TypeId} {w : World} {p g : Nat} {bs : List UInt8} (B k : Nat) (v : Value) (h1 : p ≠ B) (h2 : g ≠ B) (h : ArT t w p g bs) : ArT t (w.setCell ⟨B, k, none⟩ v) p g bs := h.other (Upd.setCell B k w v) h1 h2
theorem Upd.sc {g : Nat} {w w' : World} (B k : Nat) (v : Value) (hB : w.heap.size ≤ B) (h : Upd g w w') : Upd g w (w'.setCell ⟨B, k, none⟩ v) :=
  ⟨h.os, h.tape, h.output, by have := h.size; simpa [World.setCell] using this, fun i hi hn => (Below.heap_setCell _ _ _ _ (by simp; omega)).trans (h.block i hi hn)⟩
/-- A call. -/
structure OpD where
  kind : Int
  at' : Int
  n : Int
  v : Nat
  s : ByteArray
/-- Its numbers are numbers of their types. -/
structure OpD.ok (x : OpD) : Prop where
  ha : InI x.at'
  hn : InI x.n
  hv : x.v < 4294967296
abbrev opv (x : OpD) : Array Value := #[.int .i64 x.kind, .int .i64 x.at', .int .i64 x.n, .int .u32 (x.v : Int), .string x.s]
/-- What a call answers. -/
structure SaidD where
  n : Int
  v : Nat
  s : ByteArray
  e : Int
abbrev saidv (r : SaidD) : Array Value := #[.int .i64 r.n, .int .u32 (r.v : Int), .string r.s, .int .i64 r.e]
def sE (e : Int) : SaidD := ⟨0, 0, ⟨#[]⟩, e⟩
/-- A call's answer, and the bytes behind it. -/
def doA (bs : List UInt8) (x : OpD) : SaidD × List UInt8 :=
  if x.kind = 0 then (if okB bs.length x.at' 4 4 then ⟨0, word4 bs x.at'.toNat, ⟨#[]⟩, 0⟩ else sE 10, bs)
  else if x.kind = 1 then (if okB bs.length x.at' 4 4 then (sE 0, wrL bs x.at'.toNat (bytes4 x.v)) else (sE 10, bs))
  else if x.kind = 2 then (if okB bs.length x.at' 1 1 then ⟨(bs.getD x.at'.toNat 0).toNat, 0, ⟨#[]⟩, 0⟩ else sE 10, bs)
  else if x.kind = 3 then (if okB bs.length x.at' 1 1 then (if x.n < 0 ∨ 255 < x.n then (sE 2, bs) else (sE 0, bs.set x.at'.toNat (UInt8.ofNat x.n.toNat))) else (sE 10, bs))
  else if x.kind = 4 then (if okB bs.length x.at' x.n 1 then ⟨0, 0, ⟨((bs.drop x.at'.toNat).take x.n.toNat).toArray⟩, 0⟩ else sE 10, bs)
  else if x.kind = 5 then (if okB bs.length x.at' x.s.size 1 then (sE 0, wrL bs x.at'.toNat x.s.data.toList) else (sE 10, bs))
  else if x.kind = 6 then (if okB bs.length x.at' x.n 1 then (sE 0, wrL bs x.at'.toNat (List.replicate x.n.toNat 0)) else (sE 10, bs))
  else (sE 0, bs)
theorem doA_len (bs : List UInt8) (x : OpD) : (doA bs x).2.length = bs.length := by
  unfold doA
  split
  · rfl
  split
  · split
    · rename_i h; exact wrL_len _ _ _ (by rw [bytes4_len]; unfold okB at h; omega)
    · rfl
  split
  · rfl
  split
  · split
    · split
      · rfl
      · exact List.length_set
    · rfl
  split
  · rfl
  split
  · split
    · rename_i h; exact wrL_len _ _ _ (by unfold okB at h; have : x.s.data.toList.length = x.s.size := rfl; omega)
    · rfl
  split
  · split
    · rename_i h; exact wrL_len _ _ _ (by rw [List.length_replicate]; unfold okB at h; omega)
    · rfl
  · rfl
end Go.Proofs.YtchaojdjgbeepaaDoor
