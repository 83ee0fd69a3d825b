/- CheckerErrors: the walk, by the evaluator. -/
import Derived.Test.YtkljfafphnohoaaREa
import Derived.Test.YtkljfafphnohoaaREb
import Derived.Test.YtkljfafphnohoaaREc
import Derived.Test.YtkljfafphnohoaaREd
set_option linter.unusedVariables false
set_option linter.unusedSimpArgs false
set_option maxRecDepth 100000
namespace Go.Proofs.Ytkljfafphnohoaa
open Go.Ev Go.RowKit Go.Fw
theorem errs_all0 : ∀ k, k < 17 → Yes (Γe k 0) 20000 (.l (.l .h)) argsE
  | 0, _ => errs_0_0
  | 1, _ => errs_1_0
  | 2, _ => errs_2_0
  | 3, _ => errs_3_0
  | 4, _ => errs_4_0
  | 5, _ => errs_5_0
  | 6, _ => errs_6_0
  | 7, _ => errs_7_0
  | 8, _ => errs_8_0
  | 9, _ => errs_9_0
  | 10, _ => errs_10_0
  | 11, _ => errs_11_0
  | 12, _ => errs_12_0
  | 13, _ => errs_13_0
  | 14, _ => errs_14_0
  | 15, _ => errs_15_0
  | 16, _ => errs_16_0
  | k + 17, h => absurd h (by omega)
theorem errs_all1 : ∀ k, k < 17 → Yes (Γe k 1) 20000 (.l (.l .h)) argsE
  | 0, _ => errs_0_1
  | 1, _ => errs_1_1
  | 2, _ => errs_2_1
  | 3, _ => errs_3_1
  | 4, _ => errs_4_1
  | 5, _ => errs_5_1
  | 6, _ => errs_6_1
  | 7, _ => errs_7_1
  | 8, _ => errs_8_1
  | 9, _ => errs_9_1
  | 10, _ => errs_10_1
  | 11, _ => errs_11_1
  | 12, _ => errs_12_1
  | 13, _ => errs_13_1
  | 14, _ => errs_14_1
  | 15, _ => errs_15_1
  | 16, _ => errs_16_1
  | k + 17, h => absurd h (by omega)
theorem errs_all2 : ∀ k, k < 17 → Yes (Γe k 2) 20000 (.l (.l .h)) argsE
  | 0, _ => errs_0_2
  | 1, _ => errs_1_2
  | 2, _ => errs_2_2
  | 3, _ => errs_3_2
  | 4, _ => errs_4_2
  | 5, _ => errs_5_2
  | 6, _ => errs_6_2
  | 7, _ => errs_7_2
  | 8, _ => errs_8_2
  | 9, _ => errs_9_2
  | 10, _ => errs_10_2
  | 11, _ => errs_11_2
  | 12, _ => errs_12_2
  | 13, _ => errs_13_2
  | 14, _ => errs_14_2
  | 15, _ => errs_15_2
  | 16, _ => errs_16_2
  | k + 17, h => absurd h (by omega)
theorem errs_all3 : ∀ k, k < 17 → Yes (Γe k 3) 20000 (.l (.l .h)) argsE
  | 0, _ => errs_0_3
  | 1, _ => errs_1_3
  | 2, _ => errs_2_3
  | 3, _ => errs_3_3
  | 4, _ => errs_4_3
  | 5, _ => errs_5_3
  | 6, _ => errs_6_3
  | 7, _ => errs_7_3
  | 8, _ => errs_8_3
  | 9, _ => errs_9_3
  | 10, _ => errs_10_3
  | 11, _ => errs_11_3
  | 12, _ => errs_12_3
  | 13, _ => errs_13_3
  | 14, _ => errs_14_3
  | 15, _ => errs_15_3
  | 16, _ => errs_16_3
  | k + 17, h => absurd h (by omega)
theorem errs_all (k : Nat) (hk : k < 17) : ∀ j, j < 4 → Yes (Γe k j) 20000 (.l (.l .h)) argsE
  | 0, _ => errs_all0 k hk
  | 1, _ => errs_all1 k hk
  | 2, _ => errs_all2 k hk
  | 3, _ => errs_all3 k hk
  | j + 4, h => absurd h (by omega)
theorem checkerErrors_walk (a b : Int) (w : World) : Calls Try.prog 3 #[.int .i64 a, .int .i64 b] w (Ret fun v w' => v = .bool true ∧ Below w.heap.size w w') := by
  let σ : Nat → Int := fun j => if j = 0 then a else b
  obtain ⟨k, hk, hp⟩ := mod17 σ
  obtain ⟨j, hj, hq⟩ := mod4 σ
  refine call_top (σ := σ) mixed tys_ok (Γ := Γe k j) ⟨fun p hp => (by cases hp), fun p hp => (by cases hp)⟩ tab_ok rfl sites_ok (fun e he => ?_) (vs := argsE) (args := [.int .i64 a, .int .i64 b]) ⟨_, _, rfl, rfl, _, _, rfl, rfl, rfl⟩ (errs_all k hk j hj) w
  simp only [Γe, List.mem_cons, List.not_mem_nil, or_false] at he
  rcases he with rfl | rfl | rfl
  · exact hp
  · exact hq
  · exact known_pc4 σ
end Go.Proofs.Ytkljfafphnohoaa
