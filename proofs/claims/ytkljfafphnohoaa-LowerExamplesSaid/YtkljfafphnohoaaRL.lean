/- LowerExamples: the walk, by the evaluator. -/
import Derived.Test.YtkljfafphnohoaaKnL
set_option linter.unusedVariables false
set_option linter.unusedSimpArgs false
set_option maxRecDepth 100000
namespace Go.Proofs.Ytkljfafphnohoaa
open Go.Ev Go.RowKit Go.Fw
noncomputable def Γlo : Env := ⟨tab, sites, [], [], [kKnown7]⟩
theorem lower_run : Yes Γlo 20000 (.r (.l .h)) [] := by unfold Yes; kernel_rfl
theorem lowerExamples_walk (w : World) : Calls Try.prog 4 #[] w (Ret fun v w' => v = .bool true ∧ Below w.heap.size w w') := by
  refine call_top (σ := fun _ => 0) mixed tys_ok (Γ := Γlo) ⟨fun p hp => (by cases hp), fun p hp => (by cases hp)⟩ tab_ok rfl sites_ok (fun e he => ?_) (vs := []) (args := []) rfl lower_run w
  simp only [Γlo, List.mem_cons, List.not_mem_nil, or_false] at he
  subst he
  exact known_pc7 _
end Go.Proofs.Ytkljfafphnohoaa
