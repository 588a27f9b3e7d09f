/-
  selionlaw03.Cut and selionlaw03.made.
-/
import Derived.Test.YtchaojdjgbeepaaDoorArN
namespace Go.Proofs.YtchaojdjgbeepaaDoor
open Go.RowKit Go.Lib Go.Shelf
attribute [local go_sem] Oper.semAt_some

theorem own_blk {w W : World} {base : Nat} {e : TypeId} {size n : Nat} {v : Value} {xs : List Value} (h : w.ownsRow base e size v n xs) (hk : ∀ B cs t, base ≤ B → Blk w B cs t → Blk W B cs t) : W.ownsRow base e size v n xs := by
  refine ⟨h.1, ?_⟩
  rcases h.2 with h | ⟨g, cap, cur, hv, hg, hb, hr⟩
  · exact .inl h
  · exact .inr ⟨g, cap, cur, hv, hg, hk g cur e hg hb, hr⟩
theorem own_ge {w : World} {base : Nat} {e : TypeId} {size n : Nat} {v : Value} {xs : List Value} (h : w.ownsRow base e size v n xs) {k : Nat} (hk : v.ownBlock = some k) : base ≤ k := by
  rcases h.2 with ⟨rfl, _⟩ | ⟨g, cap, cur, rfl, hg, _⟩
  · cases hk
  · simp [Value.ownBlock] at hk; omega
theorem own_slice {w : World} {base : Nat} {e : TypeId} {size n : Nat} {v : Value} {xs : List Value} (h : w.ownsRow base e size v n xs) : ∃ q c, v = .slice q n c := by
  rcases h.2 with ⟨rfl, rfl⟩ | ⟨g, cap, cur, rfl, _⟩
  · exact ⟨none, 0, rfl⟩
  · exact ⟨_, _, rfl⟩
theorem cell_five_new (w : World) (x y z u v : Value) (t : TypeId) : ∀ j q, [x, y, z, u, v][j]? = some q → (w.alloc (.cells #[x, y, z, u, v] t)).cell? ((⟨w.heap.size, 0, none⟩ : Addr).add j) = some q := by
  intro j q hj
  match j, hj with
  | 0, hj => simp at hj; subst hj; exact (Blk.new w #[x, y, z, u, v] t).cell rfl
  | 1, hj => simp at hj; subst hj; exact (Blk.new w #[x, y, z, u, v] t).cell rfl
  | 2, hj => simp at hj; subst hj; exact (Blk.new w #[x, y, z, u, v] t).cell rfl
  | 3, hj => simp at hj; subst hj; exact (Blk.new w #[x, y, z, u, v] t).cell rfl
  | 4, hj => simp at hj; subst hj; exact (Blk.new w #[x, y, z, u, v] t).cell rfl
theorem Tryd.infoOp : (Tryd.prog.info? 44).map (fun i => (i.zero, i.size, i.bytes)) = some (some (.agg #[.int .i64 0, .int .i64 0, .int .i64 0, .int .u32 0, .string ⟨#[]⟩]), 5, 48) := by kernel_rfl
theorem cutL_len (xs : List OpD) : (cutL xs).length = min 20 xs.length := by simp [cutL]
theorem cutL_take (xs : List OpD) (k : Nat) (x : OpD) (h : xs[k]? = some x) (hk : k < 20) : ovals ((cutL xs).take (k + 1)) = ovals ((cutL xs).take k) ++ (opv (cutO x)).toList := by
  have h1 : (cutL xs)[k]? = some (cutO x) := by simp [cutL, hk, h]
  obtain ⟨h2, h3⟩ := List.getElem?_eq_some_iff.1 h1
  rw [List.take_succ_eq_append_getElem h2, ovals_app, h3]
  simp [ovals]
theorem cutS_size (k : Nat) (s : ByteArray) : (cutS k s).size = min s.size k := by simp [cutS, ByteArray.size_extract]
theorem cutL_ok (xs : List OpD) (h : ∀ x ∈ xs, x.ok ∧ x.s.size ≤ maxLen) : ∀ x ∈ cutL xs, x.ok ∧ x.s.size ≤ maxLen := by
  intro y hy
  simp only [cutL, List.mem_map] at hy
  obtain ⟨x, hx, rfl⟩ := hy
  obtain ⟨⟨h1, h2, h3⟩, h4⟩ := h x (List.mem_of_mem_take hx)
  refine ⟨⟨h1, h2, h3⟩, ?_⟩
  show (cutS 200 x.s).size ≤ _
  rw [cutS_size]
  omega
theorem cutS_all (k : Nat) (s : ByteArray) (h : s.size ≤ k) : cutS k s = s := by
  rw [cutS, Nat.min_eq_left h]
  exact ByteArray.extract_zero_size
theorem cutS_some (k : Nat) (s : ByteArray) (h : k < s.size) : cutS k s = s.extract 0 k := by rw [cutS, Nat.min_eq_right (by omega)]
theorem cell_five_at (w : World) (x y z u v : Value) (t t' : TypeId) : ∀ j q, [x, y, z, u, v][j]? = some q → ((w.alloc (.cells #[x, y, z, u, v] t')).alloc (.cells #[x, y, z, u, v] t)).cell? ((⟨w.heap.size + 1, 0, none⟩ : Addr).add j) = some q := by
  have := cell_five_new (w.alloc (.cells #[x, y, z, u, v] t')) x y z u v t
  rwa [World.size_alloc] at this
def CutPost (w : World) (ys : List OpD) (e : Ending) (w' : World) : Prop := ∃ q c, e = .returned (.slice q ys.length c) ∧ OL w' q ys ∧ (∀ a, q = some a → w.heap.size ≤ a.block) ∧ Below w.heap.size w w'

set_option maxRecDepth 100000 in
set_option maxHeartbeats 2000000 in
theorem cut_any (q : Option Addr) (n cap : Nat) (xs : List OpD) (w : World) (hL : OL w q xs) (hn : xs.length = n) (hm : n ≤ maxLen) :
    Calls Tryd.prog 16 #[.slice q n cap] w (CutPost w (cutL xs)) := by
  have HL := Lib.hid hL
  have hok : ∀ x ∈ cutL xs, x.ok ∧ x.s.size ≤ maxLen := cutL_ok xs fun x hx => by
    obtain ⟨i, hi⟩ := List.getElem?_of_mem hx
    obtain ⟨_, _, _, h0, h1, _⟩ := hL i x hi
    exact ⟨h0, h1⟩
  have HOK := Lib.hid hok
  have HN := Lib.hid hn
  obtain ⟨i0, hi, hz0, hz1, hz2⟩ := info_parts Tryd.infoOp
  unfold maxLen at hm
  clear hL hok hn
  go_enter Tryd.func16, Tryd.ntmps16
  go_wp2
  go_loopw [3, 4] (fun v i wr => ∃ k : Nat, k ≤ n ∧ k ≤ 20 ∧ i = .int .i64 (k : Int) ∧ wr.ownsRow w.heap.size 44 5 v k (ovals ((cutL xs).take k)) ∧ Below w.heap.size w wr) (fun _ i _ => 20 - (intOf i).toNat)
  case atStart => exact ⟨0, by omega, by omega, rfl, World.ownsRow_nil _ _ _ _, Below.refl _ _⟩
  case round =>
    obtain ⟨k, hk1, hk2, rfl, hown, hb⟩ := hrel
    have HO := Lib.hid hown
    have HB := Lib.hid hb
    have hL := HL.out.below hb
    have hsz := hb.size
    clear hown hb
    by_cases hkn : k < n
    · have b0 : decide ((k : Int) < (n : Int)) = true := by simp; omega
      have b0' : decide (k < n) = true := by simpa using hkn
      by_cases hk20 : k < 20
      · have b1 : decide ((k : Int) < 20) = true := by simp; omega
        have hx : xs[k]? = some (xs[k]'(by rw [HN.out]; exact hkn)) := List.getElem?_eq_getElem _
        generalize xs[k]'(by rw [HN.out]; exact hkn) = x at hx
        obtain ⟨b, o, rfl, h0, h1, c0, c1, c2, c3, c4⟩ := hL k x hx
        have HS := Lib.hid (cutL_take xs k x hx hk20)
        have hm1 : x.s.size ≤ 9223372036854775807 := by unfold maxLen at h1; omega
        clear hL hx h0 h1
        have ik : (0 : Int) ≤ (k : Int) := by omega
        by_cases hs : x.s.size ≤ 200
        · skip
          have HC5 := Lib.hid (cell_five_at wr (.int .i64 x.kind) (.int .i64 x.at') (.int .i64 x.n) (.int .u32 (x.v : Int)) (.string x.s) 44 44)
          have HBa := Lib.hid ((HB.out.alloc HB.out.size (.cells #[.int .i64 x.kind, .int .i64 x.at', .int .i64 x.n, .int .u32 (x.v : Int), .string x.s] 44)).alloc (by simp; omega) (.cells #[.int .i64 x.kind, .int .i64 x.at', .int .i64 x.n, .int .u32 (x.v : Int), .string x.s] 44))
          have HOa := Lib.hid ((HO.out.alloc (.cells #[.int .i64 x.kind, .int .i64 x.at', .int .i64 x.n, .int .u32 (x.v : Int), .string x.s] 44)).alloc (.cells #[.int .i64 x.kind, .int .i64 x.at', .int .i64 x.n, .int .u32 (x.v : Int), .string x.s] 44))
          have HE := Lib.hid (show cutS 200 x.s = x.s from cutS_all _ _ hs)
          go_wp2_with (at_builtin; refine wpList_append_own _ rfl _ _ 34 rfl w.heap.size 44 i0 (.agg #[.int .i64 0, .int .i64 0, .int .i64 0, .int .u32 0, .string ⟨#[]⟩]) 5 48 Tryd.underlying34 hi hz0 hz1 hz2 rfl (by decide) _ k (ovals ((cutL xs).take k)) rfl HOa.out ⟨wr.heap.size + 1, 0, none⟩ 1 1 [.int .i64 x.kind, .int .i64 x.at', .int .i64 x.n, .int .u32 (x.v : Int), .string x.s] rfl rfl HC5.out (by simp [Value.oneCell']) (by unfold maxLen; omega) (by omega) (by simp; omega) ?_; intro v' w2 hown2 hgrow2 _; have HO2 := Lib.hid hown2; have HB2 := Lib.hid (HBa.out.grown hgrow2 (by simp; omega) (fun k ek => own_ge HO.out ek)); clear hown2 hgrow2)
          go_roundw
          case rel =>
            refine ⟨k + 1, by omega, by omega, by go_num, ?_, HB2.out⟩
            rw [HS.out]
            have h5 := HO2.out
            rw [← HE.out] at h5
            exact h5
          case measure => simp [intOf]; omega
        · have hs' : 200 < x.s.size := by omega
          have HC5 := Lib.hid (cell_five_at wr (.int .i64 x.kind) (.int .i64 x.at') (.int .i64 x.n) (.int .u32 (x.v : Int)) (.string (x.s.extract 0 200)) 44 44)
          have HBa := Lib.hid ((HB.out.alloc HB.out.size (.cells #[.int .i64 x.kind, .int .i64 x.at', .int .i64 x.n, .int .u32 (x.v : Int), .string (x.s.extract 0 200)] 44)).alloc (by simp; omega) (.cells #[.int .i64 x.kind, .int .i64 x.at', .int .i64 x.n, .int .u32 (x.v : Int), .string (x.s.extract 0 200)] 44))
          have HOa := Lib.hid ((HO.out.alloc (.cells #[.int .i64 x.kind, .int .i64 x.at', .int .i64 x.n, .int .u32 (x.v : Int), .string (x.s.extract 0 200)] 44)).alloc (.cells #[.int .i64 x.kind, .int .i64 x.at', .int .i64 x.n, .int .u32 (x.v : Int), .string (x.s.extract 0 200)] 44))
          have HE := Lib.hid (show cutS 200 x.s = (x.s.extract 0 200) from cutS_some _ _ hs')
          go_wp2_with (at_builtin; refine wpList_append_own _ rfl _ _ 34 rfl w.heap.size 44 i0 (.agg #[.int .i64 0, .int .i64 0, .int .i64 0, .int .u32 0, .string ⟨#[]⟩]) 5 48 Tryd.underlying34 hi hz0 hz1 hz2 rfl (by decide) _ k (ovals ((cutL xs).take k)) rfl HOa.out ⟨wr.heap.size + 1, 0, none⟩ 1 1 [.int .i64 x.kind, .int .i64 x.at', .int .i64 x.n, .int .u32 (x.v : Int), .string (x.s.extract 0 200)] rfl rfl HC5.out (by simp [Value.oneCell']) (by unfold maxLen; omega) (by omega) (by simp; omega) ?_; intro v' w2 hown2 hgrow2 _; have HO2 := Lib.hid hown2; have HB2 := Lib.hid (HBa.out.grown hgrow2 (by simp; omega) (fun k ek => own_ge HO.out ek)); clear hown2 hgrow2)
          go_roundw
          case rel =>
            refine ⟨k + 1, by omega, by omega, by go_num, ?_, HB2.out⟩
            rw [HS.out]
            have h5 := HO2.out
            rw [← HE.out] at h5
            exact h5
          case measure => simp [intOf]; omega
      · obtain rfl : k = 20 := by omega
        have hl : (cutL xs).length = 20 := by rw [cutL_len, HN.out]; omega
        have HLn := Lib.hid hl
        rw [List.take_of_length_le (by omega)] at HO
        obtain ⟨q', c', rfl⟩ := own_slice HO.out
        clear hl
        go_wp2
        go_ret
        obtain ⟨h1, h2⟩ := OL.own HO.out HLn.out.symm HOK.out
        exact ⟨q', c', by rw [HLn.out]; rfl, h1, h2, HB.out⟩
    · obtain rfl : k = n := by omega
      have hl : (cutL xs).length = k := by rw [cutL_len, HN.out]; omega
      have HLn := Lib.hid hl
      rw [List.take_of_length_le (by omega)] at HO
      obtain ⟨q', c', rfl⟩ := own_slice HO.out
      clear hl
      go_wp2
      go_ret
      obtain ⟨h1, h2⟩ := OL.own HO.out HLn.out.symm HOK.out
      exact ⟨q', c', by rw [HLn.out]; rfl, h1, h2, HB.out⟩
end Go.Proofs.YtchaojdjgbeepaaDoor
