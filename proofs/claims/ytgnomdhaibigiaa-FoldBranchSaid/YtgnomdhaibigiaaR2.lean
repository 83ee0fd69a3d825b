/- FoldBranch: the walk, by the evaluator. -/
import Derived.Test.YtgnomdhaibigiaaFn
set_option linter.unusedVariables false
set_option maxRecDepth 100000
namespace Go.Proofs.Ytgnomdhaibigiaa
open Go.Ev Go.RowKit Go.Fw
noncomputable def Γ0 : Env := ⟨tab, sites, [], []⟩
noncomputable def Γ1 : Env := ⟨tab, sites, [], [(.eql, .v 0, .n 0, false), (.neq, .v 0, .n 0, true)]⟩
theorem Γ0_ok (σ : Nat → Int) : Γ0.Ok σ := ⟨fun p h => (by cases h), fun p h => (by cases h)⟩
theorem Γ1_ok (σ : Nat → Int) (h : σ 0 ≠ 0) : Γ1.Ok σ := by
  refine ⟨fun p h => (by cases h), fun p hp => ?_⟩
  simp only [Γ1, List.mem_cons, List.not_mem_nil, or_false] at hp
  rcases hp with rfl | rfl <;> simp [cmpI, SE.den, h]
theorem foldBranch_ev0 : Yes Γ0 2000 (.r (.l .h)) [.a (.i .i64 (.n 0)), .a (.i .i64 (.v 1))] := by unfold Yes; kernel_rfl
theorem foldBranch_ev1 : Yes Γ1 2000 (.r (.l .h)) [.a (.i .i64 (.v 0)), .a (.i .i64 (.v 1))] := by unfold Yes; kernel_rfl
theorem foldBranch_walk (n v : Int) (w : World) : Calls Try.prog 4 #[.int .i64 n, .int .i64 v] w (Ret fun v w' => v = .bool true ∧ Below w.heap.size w w') := by
  let σ : Nat → Int := fun i => if i = 0 then n else v
  by_cases h : n = 0
  · subst h
    exact call_top (σ := σ) mixed tys_ok (Γ0_ok _) tab_ok rfl sites_ok (vs := [.a (.i .i64 (.n 0)), .a (.i .i64 (.v 1))]) (args := [.int .i64 0, .int .i64 v]) ⟨_, _, rfl, rfl, _, _, rfl, rfl, rfl⟩ foldBranch_ev0 w
  · exact call_top (σ := σ) mixed tys_ok (Γ1_ok σ h) tab_ok rfl sites_ok (vs := [.a (.i .i64 (.v 0)), .a (.i .i64 (.v 1))]) (args := [.int .i64 n, .int .i64 v]) ⟨_, _, rfl, rfl, _, _, rfl, rfl, rfl⟩ foldBranch_ev1 w
end Go.Proofs.Ytgnomdhaibigiaa
