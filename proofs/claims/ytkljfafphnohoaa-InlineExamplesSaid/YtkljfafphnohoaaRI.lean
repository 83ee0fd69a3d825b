/- InlineExamples: the walk, by the evaluator. -/
import Derived.Test.YtkljfafphnohoaaKnI
set_option linter.unusedVariables false
set_option linter.unusedSimpArgs false
set_option maxRecDepth 100000
namespace Go.Proofs.Ytkljfafphnohoaa
open Go.Ev Go.RowKit Go.Fw
noncomputable def tI0 : SE := .b .mul .i64 (.v 0) (.v 0)
noncomputable def tI1 : SE := .b .add .i64 (.b .mul .i64 (.v 0) (.v 0)) (.n 1)
noncomputable def Γi : Env := ⟨tab, sites, [(.b .add .i64 (.v 0) (.n 0), .v 0)], [(.eql, .v 0, .v 0, true), (.neq, .v 0, .v 0, false), (.eql, tI0, tI0, true), (.neq, tI0, tI0, false), (.eql, tI1, tI1, true), (.neq, tI1, tI1, false)], [kKnown11]⟩
noncomputable def argsI : List V := [.a (.i .i64 (.v 0))]
theorem wrap_self {n : Int} (h : -9223372036854775808 ≤ n ∧ n < 9223372036854775808) : IntKind.i64.wrap (n + 0) = n := by
  simp [IntKind.wrap, IntKind.bits, IntKind.signed]
  split <;> omega
theorem Γi_ok (σ : Nat → Int) (hs : -9223372036854775808 ≤ σ 0 ∧ σ 0 < 9223372036854775808) : Γi.Ok σ := by
  refine ⟨fun p hp => ?_, fun p hp => ?_⟩
  · simp only [Γi, List.mem_cons, List.not_mem_nil, or_false] at hp
    subst hp
    exact wrap_self hs
  simp only [Γi, List.mem_cons, List.not_mem_nil, or_false] at hp
  rcases hp with rfl | rfl | rfl | rfl | rfl | rfl <;> simp [cmpI]
theorem inline_run : Yes Γi 20000 (.l (.r .h)) argsI := by unfold Yes; kernel_rfl
theorem inlineExamples_walk (a : Int) (ha : -9223372036854775808 ≤ a ∧ a < 9223372036854775808) (w : World) : Calls Try.prog 5 #[.int .i64 a] w (Ret fun v w' => v = .bool true ∧ Below w.heap.size w w') := by
  refine call_top (σ := fun _ => a) mixed tys_ok (Γi_ok _ ha) tab_ok rfl sites_ok (fun e he => ?_) (vs := argsI) (args := [.int .i64 a]) ⟨_, _, rfl, rfl, rfl⟩ inline_run w
  simp only [Γi, List.mem_cons, List.not_mem_nil, or_false] at he
  subst he
  exact known_pc11 _
end Go.Proofs.Ytkljfafphnohoaa
