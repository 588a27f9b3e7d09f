/-
  What the statements over an arena behind some calls begin with.
-/
import Derived.Test.YtchaojdjgbeepaaDoorArX
namespace Go.Proofs.YtchaojdjgbeepaaDoor
open Go.RowKit Go.Lib Go.Shelf
attribute [local go_sem] Oper.semAt_some

/-- Some calls, made at any world behind this one, leave these bytes. -/
def MadeAt (w : World) (b : Nat) (q : Option Addr) (n cap : Nat) (bs : List UInt8) : Prop := ∀ W, Below w.heap.size w W → Calls Tryd.prog 23 #[.int .i64 (b : Int), .slice q n cap] W (MadePost W bs)
theorem MadeAt.call {w : World} {b : Nat} {q : Option Addr} {n cap : Nat} {bs : List UInt8} (h : MadeAt w b q n cap bs) (W : World) (hb : Below w.heap.size w W) : Calls Tryd.prog 23 #[.int .i64 (b : Int), .slice q n cap] W (MadePost W bs) := h W hb
theorem made_at (V : VR) (b : Nat) (q : Option Addr) (n cap : Nat) (w : World) (hV : RV w V) (h0 : 1 ≤ b) (h1 : b ≤ 32) (hL : ∃ xs, OL w q xs ∧ xs.length = n) (hl : n ≤ cap) (hm : cap ≤ maxLen) : ∃ bs, bs.length = 4096 * b ∧ MadeAt w b q n cap bs := by
  obtain ⟨xs, hL, hn⟩ := hL
  exact ⟨_, by rw [runA_len, zer_len], fun W hb => made_ok V b q n cap xs W (hV.below hb) h0 h1 (hL.below hb) hn (by omega)⟩
theorem drop_take_app (bs : List UInt8) (i n m : Nat) : (bs.drop i).take (n + m) = (bs.drop i).take n ++ (bs.drop (i + n)).take m := by
  rw [List.take_add, List.drop_drop]
theorem mk_app (a b : List UInt8) : (⟨(a ++ b).toArray⟩ : ByteArray) = ⟨a.toArray⟩ ++ ⟨b.toArray⟩ := by
  apply ByteArray.ext
  rw [ByteArray.data_append]
  simp
theorem mk_size (l : List UInt8) : (⟨l.toArray⟩ : ByteArray).size = l.length := rfl
end Go.Proofs.YtchaojdjgbeepaaDoor
