/- IrShows: the walk, by the evaluator. -/
import Derived.Test.YtgnomdhaibigiaaFn
set_option linter.unusedVariables false
set_option maxRecDepth 100000
namespace Go.Proofs.Ytgnomdhaibigiaa
open Go.Ev Go.RowKit Go.Fw
noncomputable def Γi (r : SE) : Env := ⟨tab, sites, [(.b .rem .i64 (.v 3) (.n 4), r)], [(.eql, .v 0, .v 0, true), (.eql, .v 1, .v 1, true), (.eql, .b .add .i64 (.v 0) (.v 1), .b .add .i64 (.v 0) (.v 1), true)]⟩
theorem Γi_ok (σ : Nat → Int) (r : SE) (h : (σ 3).tmod 4 = r.den σ) : (Γi r).Ok σ := by
  refine ⟨fun p hp => ?_, fun p hp => ?_⟩
  · simp only [Γi, List.mem_cons, List.not_mem_nil, or_false] at hp
    subst hp
    exact h
  · simp only [Γi, List.mem_cons, List.not_mem_nil, or_false] at hp
    rcases hp with rfl | rfl | rfl <;> simp [cmpI]
noncomputable def args3 (b : Bool) : List V := [.a (.i .i64 (.v 0)), .a (.i .i64 (.v 1)), .a (.b b), .a (.i .i64 (.v 3))]
theorem irShows_a0 : Yes (Γi (.n 0)) 2000 (.l (.l (.l .h))) (args3 false) := by unfold Yes; kernel_rfl
theorem irShows_a1 : Yes (Γi (.n 1)) 2000 (.l (.l (.l .h))) (args3 false) := by unfold Yes; kernel_rfl
theorem irShows_a2 : Yes (Γi (.n 2)) 2000 (.l (.l (.l .h))) (args3 false) := by unfold Yes; kernel_rfl
theorem irShows_a3 : Yes (Γi (.n 3)) 2000 (.l (.l (.l .h))) (args3 false) := by unfold Yes; kernel_rfl
theorem irShows_ag0 : Yes (Γi (.g 0)) 2000 (.l (.l (.l .h))) (args3 false) := by unfold Yes; kernel_rfl
theorem irShows_ag1 : Yes (Γi (.g 1)) 2000 (.l (.l (.l .h))) (args3 false) := by unfold Yes; kernel_rfl
theorem irShows_ag2 : Yes (Γi (.g 2)) 2000 (.l (.l (.l .h))) (args3 false) := by unfold Yes; kernel_rfl
theorem irShows_b0 : Yes (Γi (.n 0)) 2000 (.l (.l (.l .h))) (args3 true) := by unfold Yes; kernel_rfl
theorem irShows_b1 : Yes (Γi (.n 1)) 2000 (.l (.l (.l .h))) (args3 true) := by unfold Yes; kernel_rfl
theorem irShows_b2 : Yes (Γi (.n 2)) 2000 (.l (.l (.l .h))) (args3 true) := by unfold Yes; kernel_rfl
theorem irShows_b3 : Yes (Γi (.n 3)) 2000 (.l (.l (.l .h))) (args3 true) := by unfold Yes; kernel_rfl
theorem irShows_bg0 : Yes (Γi (.g 0)) 2000 (.l (.l (.l .h))) (args3 true) := by unfold Yes; kernel_rfl
theorem irShows_bg1 : Yes (Γi (.g 1)) 2000 (.l (.l (.l .h))) (args3 true) := by unfold Yes; kernel_rfl
theorem irShows_bg2 : Yes (Γi (.g 2)) 2000 (.l (.l (.l .h))) (args3 true) := by unfold Yes; kernel_rfl
theorem irShows_at (r : Int) (h1 : -3 ≤ r) (h2 : r ≤ 3) (b : Bool) : ∃ e : SE, (∀ σ, r = e.den σ) ∧ Yes (Γi e) 2000 (.l (.l (.l .h))) (args3 b) := by
  have h : r = 0 ∨ r = 1 ∨ r = 2 ∨ r = 3 ∨ r = -1 ∨ r = -2 ∨ r = -3 := by omega
  cases b
  · rcases h with rfl | rfl | rfl | rfl | rfl | rfl | rfl
    · exact ⟨.n 0, fun _ => rfl, irShows_a0⟩
    · exact ⟨.n 1, fun _ => rfl, irShows_a1⟩
    · exact ⟨.n 2, fun _ => rfl, irShows_a2⟩
    · exact ⟨.n 3, fun _ => rfl, irShows_a3⟩
    · exact ⟨.g 0, fun _ => rfl, irShows_ag0⟩
    · exact ⟨.g 1, fun _ => rfl, irShows_ag1⟩
    · exact ⟨.g 2, fun _ => rfl, irShows_ag2⟩
  · rcases h with rfl | rfl | rfl | rfl | rfl | rfl | rfl
    · exact ⟨.n 0, fun _ => rfl, irShows_b0⟩
    · exact ⟨.n 1, fun _ => rfl, irShows_b1⟩
    · exact ⟨.n 2, fun _ => rfl, irShows_b2⟩
    · exact ⟨.n 3, fun _ => rfl, irShows_b3⟩
    · exact ⟨.g 0, fun _ => rfl, irShows_bg0⟩
    · exact ⟨.g 1, fun _ => rfl, irShows_bg1⟩
    · exact ⟨.g 2, fun _ => rfl, irShows_bg2⟩
theorem tmod_rng (n : Int) (k : Int) (hk : 0 < k) : -k < n.tmod k ∧ n.tmod k < k := by
  rcases Int.le_total 0 n with h | h
  · have h1 := Int.tmod_nonneg k h
    have h2 := Int.tmod_lt_of_pos n hk
    omega
  · have h1 := Int.tmod_nonneg k (a := -n) (by omega)
    have h2 := Int.tmod_lt_of_pos (-n) hk
    rw [Int.neg_tmod] at h1 h2
    omega
theorem irShows_walk (a add : Int) (late : Bool) (how : Int) (w : World) : Calls Try.prog 7 #[.int .i64 a, .int .i64 add, .bool late, .int .i64 how] w (Ret fun v w' => v = .bool true ∧ Below w.heap.size w w') := by
  let σ : Nat → Int := fun i => if i = 0 then a else if i = 1 then add else how
  have hr := tmod_rng how 4 (by omega)
  obtain ⟨e, h1, h2⟩ := irShows_at (how.tmod 4) (by omega) (by omega) late
  exact call_top (σ := σ) mixed tys_ok (Γi_ok σ e (h1 σ)) tab_ok rfl sites_ok (vs := args3 late) (args := [.int .i64 a, .int .i64 add, .bool late, .int .i64 how]) ⟨_, _, rfl, rfl, _, _, rfl, rfl, _, _, rfl, rfl, _, _, rfl, rfl, rfl⟩ h2 w
end Go.Proofs.Ytgnomdhaibigiaa
