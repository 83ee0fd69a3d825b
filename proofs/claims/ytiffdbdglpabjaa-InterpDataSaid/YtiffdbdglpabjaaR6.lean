/- InterpData: the walk, by the evaluator. -/
import Derived.Test.YtiffdbdglpabjaaR6a
set_option linter.unusedVariables false
set_option linter.unusedSimpArgs false
set_option maxRecDepth 100000
namespace Go.Proofs.Ytiffdbdglpabjaa
open Go.Ev Go.RowKit Go.Fw
theorem tmod_rng (n : Int) (k : Int) (hk : 0 < k) : -k < n.tmod k ∧ n.tmod k < k := by
  rcases Int.le_total 0 n with h | h
  · have h1 := Int.tmod_nonneg k h
    have h2 := Int.tmod_lt_of_pos n hk
    omega
  · have h1 := Int.tmod_nonneg k (a := -n) (by omega)
    have h2 := Int.tmod_lt_of_pos (-n) hk
    rw [Int.neg_tmod] at h1 h2
    omega
theorem tD_eq (σ : Nat → Int) : tD1.den σ = tD2.den σ := by
  simp only [tD1, tD2, SE.den, bin, binI, Option.getD_some, IntKind.wrap_i64]
  simp only [Int.ofNat_eq_natCast]
  omega
theorem Γd_ok (σ : Nat → Int) (r : SE) (h : (σ 2).tmod 3 = r.den σ) : (Γd r).Ok σ := by
  refine ⟨fun p hp => ?_, fun p hp => ?_⟩
  · simp only [Γd, List.mem_cons, List.not_mem_nil, or_false] at hp
    subst hp
    exact h
  · simp only [Γd, List.mem_cons, List.not_mem_nil, or_false] at hp
    rcases hp with rfl | rfl
    · simp [cmpI]
    · simp [cmpI, tD_eq σ]
theorem data_at (a b i : Int) (w : World) (r : SE) (h : ∀ σ, i.tmod 3 = r.den σ) (hy : Yes (Γd r) 20000 (.r (.r .h)) argsD) :
    Calls Try.prog 6 #[.int .i64 a, .int .i64 b, .int .i64 i] w (Ret fun v w' => v = .bool true ∧ Below w.heap.size w w') := by
  let σ : Nat → Int := fun j => if j = 0 then a else if j = 1 then b else i
  exact call_top (σ := σ) mixed tys_ok (Γd_ok σ r (h σ)) tab_ok rfl sites_ok (vs := argsD) (args := [.int .i64 a, .int .i64 b, .int .i64 i]) ⟨_, _, rfl, rfl, _, _, rfl, rfl, _, _, rfl, rfl, rfl⟩ hy w
theorem interpData_walk (a b i : Int) (w : World) : Calls Try.prog 6 #[.int .i64 a, .int .i64 b, .int .i64 i] w (Ret fun v w' => v = .bool true ∧ Below w.heap.size w w') := by
  have hr := tmod_rng i 3 (by omega)
  rcases (show i.tmod 3 = 0 ∨ i.tmod 3 = 1 ∨ i.tmod 3 = 2 ∨ i.tmod 3 = -1 ∨ i.tmod 3 = -2 by omega) with h | h | h | h | h
  · exact data_at a b i w (.n 0) (fun σ => h) interpData_0
  · exact data_at a b i w (.n 1) (fun σ => h) interpData_1
  · exact data_at a b i w (.n 2) (fun σ => h) interpData_2
  · exact data_at a b i w (.g 0) (fun σ => h) interpData_m1
  · exact data_at a b i w (.g 1) (fun σ => h) interpData_m2
end Go.Proofs.Ytiffdbdglpabjaa
