/- FoldBinary: the walk, by the evaluator. -/
import Derived.Test.YtgnomdhaibigiaaR4a
import Derived.Test.YtgnomdhaibigiaaR4b
set_option linter.unusedVariables false
set_option linter.unusedSimpArgs false
set_option maxRecDepth 100000
namespace Go.Proofs.Ytgnomdhaibigiaa
open Go.Ev Go.RowKit Go.Fw
theorem tmod_rng (n : Int) (k : Int) (hk : 0 < k) : -k < n.tmod k ∧ n.tmod k < k := by
  rcases Int.le_total 0 n with h | h
  · have h1 := Int.tmod_nonneg k h
    have h2 := Int.tmod_lt_of_pos n hk
    omega
  · have h1 := Int.tmod_nonneg k (a := -n) (by omega)
    have h2 := Int.tmod_lt_of_pos (-n) hk
    rw [Int.neg_tmod] at h1 h2
    omega
theorem cmp_all (a b : Int) : cmpI .eql a b = some (decide (a = b)) ∧ cmpI .neq a b = some (!decide (a = b)) ∧ cmpI .lss a b = some (decide (a < b)) ∧ cmpI .leq a b = some (decide (a < b) || decide (a = b)) ∧ cmpI .gtr a b = some (!(decide (a < b) || decide (a = b))) ∧ cmpI .geq a b = some (!decide (a < b)) := by
  refine ⟨rfl, rfl, rfl, congrArg some ?_, congrArg some ?_, congrArg some ?_⟩ <;> (rw [Bool.eq_iff_iff]; simp <;> omega)
theorem Γa_ok (σ : Nat → Int) (r : SE) (l e : Bool) (h : (σ 2).tmod 12 = r.den σ) (h1 : σ 1 ≠ 0) (hl : decide (σ 0 < σ 1) = l) (he : decide (σ 0 = σ 1) = e) : (Γa r l e).Ok σ := by
  subst hl he
  refine ⟨fun p hp => ?_, fun p hp => ?_⟩
  · simp only [Γa, List.mem_cons, List.not_mem_nil, or_false] at hp
    subst hp
    exact h
  · simp only [Γa, List.mem_cons, List.not_mem_nil, or_false] at hp
    rcases hp with rfl | rfl | rfl | rfl | rfl | rfl | rfl | rfl
    · exact (cmp_all (σ 1) 0).1.trans (by simp [h1])
    · exact (cmp_all (σ 1) 0).2.1.trans (by simp [h1])
    · exact (cmp_all (σ 0) (σ 1)).1
    · exact (cmp_all (σ 0) (σ 1)).2.1
    · exact (cmp_all (σ 0) (σ 1)).2.2.1
    · exact (cmp_all (σ 0) (σ 1)).2.2.2.1
    · exact (cmp_all (σ 0) (σ 1)).2.2.2.2.1
    · exact (cmp_all (σ 0) (σ 1)).2.2.2.2.2
theorem Γb_ok (σ : Nat → Int) (r : SE) (l e : Bool) (h : (σ 2).tmod 12 = r.den σ) (hl : decide (σ 0 < 0) = l) (he : decide (σ 0 = 0) = e) : (Γb r l e).Ok σ := by
  subst hl he
  refine ⟨fun p hp => ?_, fun p hp => ?_⟩
  · simp only [Γb, List.mem_cons, List.not_mem_nil, or_false] at hp
    subst hp
    exact h
  · simp only [Γb, List.mem_cons, List.not_mem_nil, or_false] at hp
    rcases hp with rfl | rfl | rfl | rfl | rfl | rfl
    · exact (cmp_all (σ 0) 0).1
    · exact (cmp_all (σ 0) 0).2.1
    · exact (cmp_all (σ 0) 0).2.2.1
    · exact (cmp_all (σ 0) 0).2.2.2.1
    · exact (cmp_all (σ 0) 0).2.2.2.2.1
    · exact (cmp_all (σ 0) 0).2.2.2.2.2

theorem fold_b (a op : Int) (w : World) {l e : Bool} (hl : decide (a < 0) = l) (he : decide (a = 0) = e) (h : ∃ x : SE, (∀ σ, op.tmod 12 = x.den σ) ∧ Yes (Γb x l e) 2000 (.l (.l .h)) asb) :
    Calls Try.prog 3 #[.int .i64 a, .int .i64 0, .int .i64 op] w (Ret fun v w' => v = .bool true ∧ Below w.heap.size w w') := by
  let σ : Nat → Int := fun i => if i = 0 then a else op
  obtain ⟨x, h1, h2⟩ := h
  exact call_top (σ := σ) mixed tys_ok (Γb_ok σ x l e (h1 σ) hl he) tab_ok rfl sites_ok (vs := asb) (args := [.int .i64 a, .int .i64 0, .int .i64 op]) ⟨_, _, rfl, rfl, _, _, rfl, rfl, _, _, rfl, rfl, rfl⟩ h2 w
theorem fold_a (a b op : Int) (w : World) (hb : b ≠ 0) {l e : Bool} (hl : decide (a < b) = l) (he : decide (a = b) = e) (h : ∃ x : SE, (∀ σ, op.tmod 12 = x.den σ) ∧ Yes (Γa x l e) 2000 (.l (.l .h)) asa) :
    Calls Try.prog 3 #[.int .i64 a, .int .i64 b, .int .i64 op] w (Ret fun v w' => v = .bool true ∧ Below w.heap.size w w') := by
  let σ : Nat → Int := fun i => if i = 0 then a else if i = 1 then b else op
  obtain ⟨x, h1, h2⟩ := h
  exact call_top (σ := σ) mixed tys_ok (Γa_ok σ x l e (h1 σ) hb hl he) tab_ok rfl sites_ok (vs := asa) (args := [.int .i64 a, .int .i64 b, .int .i64 op]) ⟨_, _, rfl, rfl, _, _, rfl, rfl, _, _, rfl, rfl, rfl⟩ h2 w
theorem foldBinary_walk (a b op : Int) (w : World) : Calls Try.prog 3 #[.int .i64 a, .int .i64 b, .int .i64 op] w (Ret fun v w' => v = .bool true ∧ Below w.heap.size w w') := by
  have hr := tmod_rng op 12 (by omega)
  by_cases hb : b = 0
  · subst hb
    rcases Int.lt_trichotomy a 0 with h | h | h
    · exact fold_b a op w (by simp [h]) (by simp; omega) (fb_lt _ (by omega) (by omega))
    · exact fold_b a op w (by simp; omega) (by simp [h]) (fb_eq _ (by omega) (by omega))
    · exact fold_b a op w (by simp; omega) (by simp; omega) (fb_gt _ (by omega) (by omega))
  · rcases Int.lt_trichotomy a b with h | h | h
    · exact fold_a a b op w hb (by simp [h]) (by simp; omega) (fa_lt _ (by omega) (by omega))
    · exact fold_a a b op w hb (by simp; omega) (by simp [h]) (fa_eq _ (by omega) (by omega))
    · exact fold_a a b op w hb (by simp; omega) (by simp; omega) (fa_gt _ (by omega) (by omega))
end Go.Proofs.Ytgnomdhaibigiaa
