/- DeadEntry: the walk, by the evaluator. -/
import Derived.Test.YtgnomdhaibigiaaFn
set_option linter.unusedVariables false
set_option maxRecDepth 100000
namespace Go.Proofs.Ytgnomdhaibigiaa
open Go.Ev Go.RowKit Go.Fw
noncomputable def Γ0 : Env := ⟨tab, sites, [], []⟩
theorem Γ0_ok (σ : Nat → Int) : Γ0.Ok σ := ⟨fun p h => (by cases h), fun p h => (by cases h)⟩
theorem deadEntry_ev0 : Yes Γ0 2000 (.r (.r .h)) [.a (.b false)] := by unfold Yes; kernel_rfl
theorem deadEntry_ev1 : Yes Γ0 2000 (.r (.r .h)) [.a (.b true)] := by unfold Yes; kernel_rfl
theorem deadEntry_walk (b : Bool) (w : World) : Calls Try.prog 6 #[.bool b] w (Ret fun v w' => v = .bool true ∧ Below w.heap.size w w') := by
  have h : Yes Γ0 2000 (.r (.r .h)) [.a (.b b)] := match b with | false => deadEntry_ev0 | true => deadEntry_ev1
  exact call_top (σ := fun _ => 0) mixed tys_ok (Γ0_ok _) tab_ok rfl sites_ok (vs := [.a (.b b)]) (args := [.bool b]) ⟨_, [], rfl, rfl, rfl⟩ h w
end Go.Proofs.Ytgnomdhaibigiaa
