/- InterpThrows: the walk, by the evaluator. -/
import Derived.Test.YtiffdbdglpabjaaR7a
import Derived.Test.YtiffdbdglpabjaaR7b
set_option linter.unusedVariables false
set_option linter.unusedSimpArgs false
set_option maxRecDepth 100000
namespace Go.Proofs.Ytiffdbdglpabjaa
open Go.Ev Go.RowKit Go.Fw
theorem throws_all : ∀ k, k < 7 → Yes (Γt k) 20000 (.l (.r .h)) argsT
  | 0, _ => throws_0
  | 1, _ => throws_1
  | 2, _ => throws_2
  | 3, _ => throws_3
  | 4, _ => throws_4
  | 5, _ => throws_5
  | 6, _ => throws_6
  | k + 7, h => absurd h (by omega)
theorem Γt_ok (σ : Nat → Int) (k : Nat) : (Γt k).Ok σ := by
  refine ⟨fun p hp => ?_, fun p hp => ?_⟩
  · simp only [Γt, List.mem_cons, List.not_mem_nil, or_false] at hp
    subst hp
    simp only [SE.den, bin, binI, Option.getD_some, Int.sub_self]
    rfl
  · simp only [Γt, List.mem_cons, List.not_mem_nil, or_false] at hp
    rcases hp with rfl | rfl | rfl | rfl <;> simp [cmpI]
theorem interpThrows_walk (v i : Int) (w : World) : Calls Try.prog 5 #[.int .i64 v, .int .i64 i] w (Ret fun v w' => v = .bool true ∧ Below w.heap.size w w') := by
  let σ : Nat → Int := fun j => if j = 0 then v else i
  obtain ⟨k, hk, hp⟩ := mod7 σ
  refine call_top (σ := σ) mixed tys_ok (Γt_ok σ k) tab_ok rfl sites_ok (fun e he => ?_) (vs := argsT) (args := [.int .i64 v, .int .i64 i]) ⟨_, _, rfl, rfl, _, _, rfl, rfl, rfl⟩ (throws_all k hk) w
  simp only [Γt, List.mem_cons, List.not_mem_nil, or_false] at he
  rcases he with rfl | rfl
  · exact hp
  · exact known_pc σ
end Go.Proofs.Ytiffdbdglpabjaa
