/-
  selionlaw03.do, for every call; a list of calls in memory; selionlaw03.Cut.
-/
import Derived.Test.YtchaojdjgbeepaaDoorArM
import Derived.Laws.AppendOwn
import Derived.Deep.LoopGhost
namespace Go.Proofs.YtchaojdjgbeepaaDoor
open Go.RowKit Go.Lib Go.Shelf
attribute [local go_sem] Oper.semAt_some

theorem getD_in (bs : List UInt8) (i : Nat) (h : i < bs.length) : bs.getD i 0 = bs[i] := by rw [List.getD, List.getElem?_eq_getElem h]; rfl
theorem mt {t : TypeId} {W : World} {p g : Nat} {bs : List UInt8} {f : FuncId} {args : Array Value} {v : Value} (hA : ArT t W p g bs) (h : Calls Tryd.prog f args W fun e w' => e = .returned v ∧ Below W.heap.size W w') :
    Calls Tryd.prog f args W fun e w' => e = .returned v ∧ ArT t w' p g bs ∧ Upd g W w' := h.mono fun _ _ ⟨he, hb⟩ => ⟨he, hA.below hb, Upd.of_below hb⟩
theorem do_any (V : VR) (p g : Nat) (bs : List UInt8) (x : OpD) (w : World) (hV : RV w V) (hA : Ar w p g bs) (hx : x.ok) :
    Calls Tryd.prog 19 #[.pointer (some ⟨p, 0, none⟩), .agg (opv x)] w fun e w' => e = .returned (.agg (saidv (doA bs x).1)) ∧ Ar w' p g (doA bs x).2 ∧ Upd g w w' := by
  obtain ⟨k, a, n, v, s⟩ := x
  obtain ⟨ha, hn, hv⟩ := hx
  simp only at ha hn hv
  by_cases k0 : k = 0
  · subst k0
    by_cases h : okB bs.length a 4 4
    · have hd : doA bs ⟨0, a, n, v, s⟩ = (⟨0, word4 bs a.toNat, ⟨#[]⟩, 0⟩, bs) := by simp [doA, h]
      rw [hd]
      obtain ⟨i, rfl⟩ : ∃ i : Nat, a = i := ⟨a.toNat, by unfold okB at h; omega⟩
      exact do_0 p g bs bs i n v s w hA _ 0 fun W hW _ => mt hW (load_ok p g bs i W hW (by unfold okB at h; omega) (by unfold okB at h; omega))
    · have hd : doA bs ⟨0, a, n, v, s⟩ = (sE 10, bs) := by simp [doA, h]
      rw [hd]
      exact do_0 p g bs bs a n v s w hA 0 10 fun W hW hb => mt hW (load_bad V p g bs a W (hV.below hb) hW ha h)
  by_cases k1 : k = 1
  · subst k1
    by_cases h : okB bs.length a 4 4
    · have hd : doA bs ⟨1, a, n, v, s⟩ = (sE 0, wrL bs a.toNat (bytes4 v)) := by simp [doA, h]
      rw [hd]
      obtain ⟨i, rfl⟩ : ∃ i : Nat, a = i := ⟨a.toNat, by unfold okB at h; omega⟩
      exact do_1 p g bs _ i n v s w hA 0 fun W hW _ => store_ok p g bs i v W hW hv (by unfold okB at h; omega) (by unfold okB at h; omega)
    · have hd : doA bs ⟨1, a, n, v, s⟩ = (sE 10, bs) := by simp [doA, h]
      rw [hd]
      exact do_1 p g bs bs a n v s w hA 10 fun W hW hb => mt hW (store_bad V p g bs a v W (hV.below hb) hW ha h)
  by_cases k2 : k = 2
  · subst k2
    by_cases h : okB bs.length a 1 1
    · have hd : doA bs ⟨2, a, n, v, s⟩ = (⟨(bs.getD a.toNat 0).toNat, 0, ⟨#[]⟩, 0⟩, bs) := by simp [doA, h]
      rw [hd]
      obtain ⟨i, rfl⟩ : ∃ i : Nat, a = i := ⟨a.toNat, by unfold okB at h; omega⟩
      have hi : i < bs.length := by unfold okB at h; omega
      rw [show ((i : Int).toNat) = i from rfl, getD_in bs i hi]
      exact do_2 p g bs bs i n v s w hA _ 0 fun W hW _ => mt hW (byte_ok p g bs i W hW hi)
    · have hd : doA bs ⟨2, a, n, v, s⟩ = (sE 10, bs) := by simp [doA, h]
      rw [hd]
      exact do_2 p g bs bs a n v s w hA 0 10 fun W hW hb => mt hW (byte_bad V p g bs a W (hV.below hb) hW ha h)
  by_cases k3 : k = 3
  · subst k3
    by_cases h : okB bs.length a 1 1
    · obtain ⟨i, rfl⟩ : ∃ i : Nat, a = i := ⟨a.toNat, by unfold okB at h; omega⟩
      have hi : i < bs.length := by unfold okB at h; omega
      by_cases h2 : n < 0 ∨ 255 < n
      · have hd : doA bs ⟨3, i, n, v, s⟩ = (sE 2, bs) := by simp [doA, h, h2]
        rw [hd]
        exact do_3 p g bs bs i n v s w hA 2 fun W hW hb => mt hW (put_no V p g bs i n W (hV.below hb) hW hi h2)
      · have hd : doA bs ⟨3, i, n, v, s⟩ = (sE 0, bs.set i (UInt8.ofNat n.toNat)) := by simp [doA, h, h2]
        rw [hd]
        have hn' : n = ((UInt8.ofNat n.toNat).toNat : Int) := by
          rw [UInt8.toNat_ofNat']
          omega
        refine do_3 p g bs _ i n v s w hA 0 fun W hW hb => ?_
        have := put_ok p g bs i (UInt8.ofNat n.toNat) W hW hi
        rw [← hn'] at this
        exact this
    · have hd : doA bs ⟨3, a, n, v, s⟩ = (sE 10, bs) := by simp [doA, h]
      rw [hd]
      exact do_3 p g bs bs a n v s w hA 10 fun W hW hb => mt hW (put_bad V p g bs a n W (hV.below hb) hW ha h)
  by_cases k4 : k = 4
  · subst k4
    by_cases h : okB bs.length a n 1
    · have hd : doA bs ⟨4, a, n, v, s⟩ = (⟨0, 0, ⟨((bs.drop a.toNat).take n.toNat).toArray⟩, 0⟩, bs) := by simp [doA, h]
      rw [hd]
      obtain ⟨i, rfl⟩ : ∃ i : Nat, a = i := ⟨a.toNat, by unfold okB at h; omega⟩
      obtain ⟨m, rfl⟩ : ∃ m : Nat, n = m := ⟨n.toNat, by unfold okB at h; omega⟩
      exact do_4 p g bs bs i m v s w hA _ 0 fun W hW _ => mt hW (read_ok p g bs i m W hW (by unfold okB at h; omega))
    · have hd : doA bs ⟨4, a, n, v, s⟩ = (sE 10, bs) := by simp [doA, h]
      rw [hd]
      exact do_4 p g bs bs a n v s w hA _ 10 fun W hW hb => mt hW (read_bad V p g bs a n W (hV.below hb) hW ha h)
  by_cases k5 : k = 5
  · subst k5
    by_cases h : okB bs.length a s.size 1
    · have hd : doA bs ⟨5, a, n, v, s⟩ = (sE 0, wrL bs a.toNat s.data.toList) := by simp [doA, h]
      rw [hd]
      obtain ⟨i, rfl⟩ : ∃ i : Nat, a = i := ⟨a.toNat, by unfold okB at h; omega⟩
      exact do_5 p g bs _ i n v s w hA 0 fun W hW _ => write_ok p g bs i s W hW (by unfold okB at h; omega)
    · have hd : doA bs ⟨5, a, n, v, s⟩ = (sE 10, bs) := by simp [doA, h]
      rw [hd]
      exact do_5 p g bs bs a n v s w hA 10 fun W hW hb => mt hW (write_bad V p g bs a s W (hV.below hb) hW ha h)
  by_cases k6 : k = 6
  · subst k6
    by_cases h : okB bs.length a n 1
    · have hd : doA bs ⟨6, a, n, v, s⟩ = (sE 0, wrL bs a.toNat (List.replicate n.toNat 0)) := by simp [doA, h]
      rw [hd]
      obtain ⟨i, rfl⟩ : ∃ i : Nat, a = i := ⟨a.toNat, by unfold okB at h; omega⟩
      obtain ⟨m, rfl⟩ : ∃ m : Nat, n = m := ⟨n.toNat, by unfold okB at h; omega⟩
      exact do_6 p g bs _ i m v s w hA 0 fun W hW _ => zero_ok p g bs i m W hW (by unfold okB at h; omega)
    · have hd : doA bs ⟨6, a, n, v, s⟩ = (sE 10, bs) := by simp [doA, h]
      rw [hd]
      exact do_6 p g bs bs a n v s w hA 10 fun W hW hb => mt hW (zero_bad V p g bs a n W (hV.below hb) hW ha h)
  have hd : doA bs ⟨k, a, n, v, s⟩ = (sE 0, bs) := by simp [doA, k0, k1, k2, k3, k4, k5, k6]
  rw [hd]
  exact do_x p g bs k a n v s w hA (by simpa using k0) (by simpa using k1) (by simpa using k2) (by simpa using k3) (by simpa using k4) (by simpa using k5) (by simpa using k6)

/-- The first k bytes of a text. -/
def cutS (k : Nat) (s : ByteArray) : ByteArray := s.extract 0 (min s.size k)
def cutO (x : OpD) : OpD := { x with s := cutS 200 x.s }
/-- The first twenty calls, their texts cut. -/
def cutL (xs : List OpD) : List OpD := (xs.take 20).map cutO
/-- The cells of calls. -/
def ovals (xs : List OpD) : List Value := xs.flatMap fun x => (opv x).toList
theorem ovals_app (a b : List OpD) : ovals (a ++ b) = ovals a ++ ovals b := by simp [ovals]
theorem ovals_len (xs : List OpD) : (ovals xs).length = xs.length * 5 := by
  induction xs with
  | nil => rfl
  | cons x xs ih => simp only [ovals, List.flatMap_cons, List.length_append, List.length_cons] at ih ⊢; rw [ih]; simp; omega
theorem ovals_get (xs : List OpD) (i : Nat) (x : OpD) (j : Nat) (hx : xs[i]? = some x) (hj : j < 5) : (ovals xs)[i * 5 + j]? = (opv x)[j]? := by
  induction xs generalizing i with
  | nil => simp at hx
  | cons y ys ih =>
    simp only [ovals, List.flatMap_cons]
    cases i with
    | zero =>
      simp at hx
      subst hx
      rw [List.getElem?_append_left (by simp; omega)]
      simp
    | succ i =>
      simp at hx
      rw [List.getElem?_append_right (by simp; omega)]
      have := ih i hx
      rw [ovals] at this
      rw [← this]
      congr 1
      simp
      omega
/-- Calls in memory, in the places of a slice. -/
def OL (w : World) (q : Option Addr) (xs : List OpD) : Prop := ∀ i x, xs[i]? = some x → ∃ b o, q = some ⟨b, o, none⟩ ∧ x.ok ∧ x.s.size ≤ maxLen ∧
  w.cell? ⟨b, o + i * 5, none⟩ = some (.int .i64 x.kind) ∧ w.cell? ⟨b, o + i * 5 + 1, none⟩ = some (.int .i64 x.at') ∧ w.cell? ⟨b, o + i * 5 + 2, none⟩ = some (.int .i64 x.n) ∧ w.cell? ⟨b, o + i * 5 + 3, none⟩ = some (.int .u32 (x.v : Int)) ∧ w.cell? ⟨b, o + i * 5 + 4, none⟩ = some (.string x.s)
theorem OL.blk {w w' : World} {q : Option Addr} {xs : List OpD} (h : OL w q xs) (hk : ∀ a o v, q = some a → w.cell? ⟨a.block, o, none⟩ = some v → w'.cell? ⟨a.block, o, none⟩ = some v) : OL w' q xs := fun i x hx => by
  obtain ⟨b, o, rfl, h0, h1, c0, c1, c2, c3, c4⟩ := h i x hx
  exact ⟨b, o, rfl, h0, h1, hk _ _ _ rfl c0, hk _ _ _ rfl c1, hk _ _ _ rfl c2, hk _ _ _ rfl c3, hk _ _ _ rfl c4⟩
theorem OL.below {w w' : World} {q : Option Addr} {xs : List OpD} (h : OL w q xs) (hb : Below w.heap.size w w') : OL w' q xs := h.blk fun _ _ _ _ hc => cell_below hc hb
theorem OL.upd {w w' : World} {g : Nat} {q : Option Addr} {xs : List OpD} (h : OL w q xs) (hU : Upd g w w') (hg : ∀ a, q = some a → a.block ≠ g) : OL w' q xs := h.blk fun a o v hq hc => World.grownBy.cell hU (a := ⟨a.block, o, none⟩) hc (fun e => hg a hq (by simpa using e))
theorem OL.own {W : World} {base : Nat} {e : TypeId} {q : Option Addr} {n cap : Nat} {xs : List OpD} (h : World.ownsRow W base e 5 (.slice q n cap) n (ovals xs)) (hn : n = xs.length) (hok : ∀ x ∈ xs, x.ok ∧ x.s.size ≤ maxLen) : OL W q xs ∧ ∀ a, q = some a → base ≤ a.block := by
  subst hn
  rcases h.2 with ⟨h1, h0⟩ | ⟨g, cap', cur, hv, hg, hb, hr, hc, hl, ht⟩
  · have : xs = [] := List.length_eq_zero_iff.1 h0
    subst this
    simp at h1
    obtain ⟨rfl, _⟩ := h1
    exact ⟨fun i x hx => by simp at hx, fun a e => by cases e⟩
  · simp at hv
    obtain ⟨rfl, _⟩ := hv
    refine ⟨fun i x hx => ?_, fun a e => by cases e; exact hg⟩
    have hcell : ∀ j, j < 5 → ∀ v, (opv x)[j]? = some v → W.cell? ⟨g, 0 + i * 5 + j, none⟩ = some v := fun j hj v hv => by
      have h5 := ovals_get xs i x j hx hj
      rw [hv, ← ht, List.getElem?_take] at h5
      split at h5
      · refine Blk.cell (show Blk W g cur e from hb) ?_
        rw [Nat.zero_add]
        simpa using h5
      · cases h5
    have hm := hok x (List.mem_of_getElem? hx)
    exact ⟨g, 0, rfl, hm.1, hm.2, hcell 0 (by omega) _ rfl, hcell 1 (by omega) _ rfl, hcell 2 (by omega) _ rfl, hcell 3 (by omega) _ rfl, hcell 4 (by omega) _ rfl⟩
end Go.Proofs.YtchaojdjgbeepaaDoor
