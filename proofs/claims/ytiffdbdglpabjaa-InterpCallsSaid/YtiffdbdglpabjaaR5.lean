/- InterpCalls: the walk, by the evaluator. -/
import Derived.Test.YtiffdbdglpabjaaR5a
import Derived.Test.YtiffdbdglpabjaaR5b
set_option linter.unusedVariables false
set_option linter.unusedSimpArgs false
set_option maxRecDepth 100000
namespace Go.Proofs.Ytiffdbdglpabjaa
open Go.Ev Go.RowKit Go.Fw
theorem calls_all : ∀ k, k < 12 → Yes (Γc k) 20000 (.r (.l .h)) argsC
  | 0, _ => calls_0
  | 1, _ => calls_1
  | 2, _ => calls_2
  | 3, _ => calls_3
  | 4, _ => calls_4
  | 5, _ => calls_5
  | 6, _ => calls_6
  | 7, _ => calls_7
  | 8, _ => calls_8
  | 9, _ => calls_9
  | 10, _ => calls_10
  | 11, _ => calls_11
  | k + 12, h => absurd h (by omega)
theorem interpCalls_walk (n : Int) (w : World) : Calls Try.prog 4 #[.int .i64 n] w (Ret fun v w' => v = .bool true ∧ Below w.heap.size w w') := by
  let σ : Nat → Int := fun _ => n
  obtain ⟨k, hk, hp⟩ := mod12 σ
  refine call_top (σ := σ) mixed tys_ok (Γ := Γc k) ⟨fun p hp => (by cases hp), fun p hp => (by cases hp)⟩ tab_ok rfl sites_ok (fun e he => ?_) (vs := argsC) (args := [.int .i64 n]) ⟨_, _, rfl, rfl, rfl⟩ (calls_all k hk) w
  simp only [Γc, List.mem_cons, List.not_mem_nil, or_false] at he
  rcases he with rfl | rfl
  · exact hp
  · exact known_pc σ
end Go.Proofs.Ytiffdbdglpabjaa
