/- Calls of which the answer is known: Mod, known. -/
import Derived.Test.YtkljfafphnohoaaFn
set_option linter.unusedVariables false
set_option linter.unusedSimpArgs false
set_option maxRecDepth 100000
namespace Go.Proofs.Ytkljfafphnohoaa
open Go.Ev Go.RowKit Go.Fw
theorem tmod_rng (n : Int) (k : Int) (hk : 0 < k) : -k < n.tmod k ∧ n.tmod k < k := by
  rcases Int.le_total 0 n with h | h
  · have h1 := Int.tmod_nonneg k h
    have h2 := Int.tmod_lt_of_pos n hk
    omega
  · have h1 := Int.tmod_nonneg k (a := -n) (by omega)
    have h2 := Int.tmod_lt_of_pos (-n) hk
    rw [Int.neg_tmod] at h1 h2
    omega
noncomputable def Γz : Env := ⟨tab, sites, [], [], []⟩
theorem Γz_ok (σ : Nat → Int) : Γz.Ok σ := ⟨fun p h => (by cases h), fun p h => (by cases h)⟩
noncomputable def kKnown11 : Pp × List V × V := ((.l (.r (.l (.l .h)))), [], .a (.b true))
theorem known_says11 : Says Γz 20000 (.l (.r (.l (.l .h)))) [] (.a (.b true)) := by unfold Says; kernel_rfl
theorem known_pc11 (σ : Nat → Int) : PCall Try.prog σ kKnown11 := pcall_mk (CV := sites) mixed tys_ok (Γz_ok σ) tab_ok rfl sites_ok (fun e h => by cases h) rfl rfl known_says11
noncomputable def kMod (i m k : Nat) : Pp × List V × V := ((.r (.r .h)), [.a (.i .i64 (.v i)), .a (.i .i64 (.n m))], .a (.i .i64 (.n k)))
noncomputable def Γm (i m : Nat) (r : SE) : Env := ⟨tab, sites, [(.b .rem .i64 (.v i) (.n m), r)], [], []⟩
def ModSays (i m : Nat) (r : SE) (k : Nat) : Prop := Says (Γm i m r) 200 (.r (.r .h)) [.a (.i .i64 (.v i)), .a (.i .i64 (.n m))] (.a (.i .i64 (.n k)))
theorem mod_pc (σ : Nat → Int) (i m : Nat) (r : SE) (k : Nat) (hm : (SE.b .rem .i64 (.v i) (.n m)).den σ = r.den σ) (h : ModSays i m r k) : PCall Try.prog σ (kMod i m k) := by
  refine pcall_mk (CV := sites) (Γ := Γm i m r) mixed tys_ok ⟨fun p hp => ?_, fun p hp => (by cases hp)⟩ tab_ok rfl sites_ok (fun e h => by cases h) rfl rfl h
  simp only [Γm, List.mem_cons, List.not_mem_nil, or_false] at hp
  subst hp
  exact hm
end Go.Proofs.Ytkljfafphnohoaa
