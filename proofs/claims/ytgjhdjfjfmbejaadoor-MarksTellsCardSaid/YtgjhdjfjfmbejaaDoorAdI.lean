/-
  addr.classes, one by one.
-/
import Derived.Test.YtgjhdjfjfmbejaaDoorAdD
import Derived.RangeFuncNested
import Derived.RangeFuncBound
import Derived.RangeFuncCalls
import Derived.RangeFuncLeaves
import Derived.Shelf.Abstract
import Derived.Shelf.RegionOpen
import Derived.OwnWalkIn
import Derived.TacticsInMore
import Derived.LoopNIn
import Derived.LoopIn
import Derived.Laws.Rows
namespace Go.Proofs.YtgjhdjfjfmbejaaDoor.Ad
open Go.RowKit Go.Lib Go.Shelf
attribute [local go_sem] Oper.semAt_some

abbrev encS (p : Int × Int) : Array Value := #[.agg #[.int .i64 p.1, .int .i64 p.2]]
def cls3 : List (Int × Int) := [(1, 128), (2, 2048), (3, 131072)]
theorem abides_al {β : Type} {B : Nat} {J : β → World → Prop} (h : AbidesFrom B J) {s : β} {W : World} (o : Obj) (hs : J s W) : J s (W.alloc o) := h s W _ none hs (World.grownBy_alloc W o none) (fun _ e => by cases e)
set_option maxHeartbeats 1000000 in
theorem classes1_stops (n : Nat) (hn : 1 ≤ n) (w : World) (aA aS aR : Addr) (hV : AV w aA aS aR) :
    SeqStopsA Fence.wide n Tryd.prog 65 #[] encS (fun xs => xs = cls3) (fun pre => pre <+: cls3) 3 w := fun l J Jx W hW hJ hJx hY h0 => by
  have s0 := cell_below hV.s0 hW
  have s1 := cell_below hV.s1 hW
  have s2 := cell_below hV.s2 hW
  have s3 := cell_below hV.s3 hW
  have s4 := cell_below hV.s4 hW
  have s5 := cell_below hV.s5 hW
  have HJ := Lib.hid hJ
  clear hV hW hJ hJx
  have i0 : ∀ w, (Instr.index 112 (.agg #[.int .i64 1, .int .i64 128, .int .i64 2, .int .i64 2048, .int .i64 3, .int .i64 131072]) (.int .i64 0)).run Tryd.prog w = .ok (.agg #[.int .i64 1, .int .i64 128]) w := fun _ => by kernel_rfl
  have i1 : ∀ w, (Instr.index 112 (.agg #[.int .i64 1, .int .i64 128, .int .i64 2, .int .i64 2048, .int .i64 3, .int .i64 131072]) (.int .i64 1)).run Tryd.prog w = .ok (.agg #[.int .i64 2, .int .i64 2048]) w := fun _ => by kernel_rfl
  have i2 : ∀ w, (Instr.index 112 (.agg #[.int .i64 1, .int .i64 128, .int .i64 2, .int .i64 2048, .int .i64 3, .int .i64 131072]) (.int .i64 2)).run Tryd.prog w = .ok (.agg #[.int .i64 3, .int .i64 131072]) w := fun _ => by kernel_rfl
  refine callsIn_of_wp Tryd.func65 rfl trivial ?_ rfl
  simp only [Tryd.ntmps65, List.size_toArray, List.length_cons, List.length_nil, Nat.reduceAdd, Nat.reduceSub, Array.replicate_succ, Array.replicate_zero, List.push_toArray, List.append_toArray, List.nil_append, List.cons_append]
  gi_wp2
  refine wpIn_loop_rounds 4 ?_
  rw [roundsIn_succ]
  obtain ⟨f1, t1, a1, b1, hy1, hR1⟩ := hY [] (1, 128) _ (abides_al HJ.out (.cells #[.int .i64 1, .int .i64 128] 100) h0) (by simp)
  dsimp only [encS] at hy1
  gi_wp2
  refine hR1.mono ?_
  rintro e W1 (⟨rfl, hJ1, _⟩ | ⟨rfl, hx1⟩)
  · clear hy1 hR1 h0 s0 s1 s2 s3 s4 s5
    obtain ⟨f2, t2, a2, b2, hy2, hR2⟩ := hY _ (2, 2048) _ (abides_al HJ.out (.cells #[.int .i64 2, .int .i64 2048] 100) hJ1) (by simp)
    dsimp only [encS] at hy2
    gi_wp2
    rw [roundsIn_succ]
    gi_wp2
    refine hR2.mono ?_
    rintro e W2 (⟨rfl, hJ2, _⟩ | ⟨rfl, hx2⟩)
    · clear hy2 hR2 hJ1
      obtain ⟨f3, t3, a3, b3, hy3, hR3⟩ := hY _ (3, 131072) _ (abides_al HJ.out (.cells #[.int .i64 3, .int .i64 131072] 100) hJ2) (by simp)
      dsimp only [encS] at hy3
      gi_wp2
      rw [roundsIn_succ]
      gi_wp2
      refine hR3.mono ?_
      rintro e W3 (⟨rfl, hJ3, _⟩ | ⟨rfl, hx3⟩)
      · gi_wp2
        rw [roundsIn_succ]
        gi_wp2
        go_end0
        exact ⟨⟨_, rfl⟩, .inl ⟨_, rfl, hJ3⟩⟩
      · gi_wp2
        refine bodyPost_ret (results_none rfl _ _ _) rfl ?_
        exact ⟨⟨_, rfl⟩, .inr ⟨_, ⟨[], rfl⟩, hx3⟩⟩
    · gi_wp2
      refine bodyPost_ret (results_none rfl _ _ _) rfl ?_
      exact ⟨⟨_, rfl⟩, .inr ⟨_, ⟨[_], rfl⟩, hx2⟩⟩
  · gi_wp2
    refine bodyPost_ret (results_none rfl _ _ _) rfl ?_
    exact ⟨⟨_, rfl⟩, .inr ⟨_, ⟨[_, _], rfl⟩, hx1⟩⟩
theorem classes_any (w : World) : Calls Tryd.prog 64 #[] w fun e w' => e = .returned (.func (.func 65) #[] #[]) ∧ w = w' := by
  go_enter Tryd.func64, Tryd.ntmps64
  go_wp2
  go_ret
  exact ⟨rfl, rfl⟩
end Go.Proofs.YtgjhdjfjfmbejaaDoor.Ad
