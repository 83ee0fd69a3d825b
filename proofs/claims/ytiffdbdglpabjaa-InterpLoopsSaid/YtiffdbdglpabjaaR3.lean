/- InterpLoops: the walk, by the evaluator. -/
import Derived.Test.YtiffdbdglpabjaaR3a
import Derived.Test.YtiffdbdglpabjaaR3b
import Derived.Test.YtiffdbdglpabjaaR3c
import Derived.Test.YtiffdbdglpabjaaR3d
set_option linter.unusedVariables false
set_option linter.unusedSimpArgs false
set_option maxRecDepth 100000
namespace Go.Proofs.Ytiffdbdglpabjaa
open Go.Ev Go.RowKit Go.Fw
theorem loops_all : ∀ k, k < 30 → ∃ t, Yes (Γl k t) 20000 (.l (.l .h)) argsL
  | 0, _ => loops_0
  | 1, _ => loops_1
  | 2, _ => loops_2
  | 3, _ => loops_3
  | 4, _ => loops_4
  | 5, _ => loops_5
  | 6, _ => loops_6
  | 7, _ => loops_7
  | 8, _ => loops_8
  | 9, _ => loops_9
  | 10, _ => loops_10
  | 11, _ => loops_11
  | 12, _ => loops_12
  | 13, _ => loops_13
  | 14, _ => loops_14
  | 15, _ => loops_15
  | 16, _ => loops_16
  | 17, _ => loops_17
  | 18, _ => loops_18
  | 19, _ => loops_19
  | 20, _ => loops_20
  | 21, _ => loops_21
  | 22, _ => loops_22
  | 23, _ => loops_23
  | 24, _ => loops_24
  | 25, _ => loops_25
  | 26, _ => loops_26
  | 27, _ => loops_27
  | 28, _ => loops_28
  | 29, _ => loops_29
  | k + 30, h => absurd h (by omega)
theorem Γl_ok (σ : Nat → Int) (k : Nat) (t : SE) : (Γl k t).Ok σ := by
  refine ⟨fun p hp => (by cases hp), fun p hp => ?_⟩
  simp only [Γl, List.mem_cons, List.not_mem_nil, or_false] at hp
  rcases hp with rfl | rfl <;> simp [cmpI]
theorem interpLoops_walk (n b : Int) (w : World) : Calls Try.prog 3 #[.int .i64 n, .int .i64 b] w (Ret fun v w' => v = .bool true ∧ Below w.heap.size w w') := by
  let σ : Nat → Int := fun j => if j = 0 then n else b
  obtain ⟨k, hk, hp⟩ := mod30 σ
  obtain ⟨t, hy⟩ := loops_all k hk
  refine call_top (σ := σ) mixed tys_ok (Γl_ok σ k t) tab_ok rfl sites_ok (fun e he => ?_) (vs := argsL) (args := [.int .i64 n, .int .i64 b]) ⟨_, _, rfl, rfl, _, _, rfl, rfl, rfl⟩ hy w
  simp only [Γl, List.mem_cons, List.not_mem_nil, or_false] at he
  rcases he with rfl | rfl
  · exact hp
  · exact known_pc σ
end Go.Proofs.Ytiffdbdglpabjaa
