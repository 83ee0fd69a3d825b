/- Calls of which the answer is known: Mod, known. -/
import Derived.Test.YtkljfafphnohoaaFn
set_option linter.unusedVariables false
set_option linter.unusedSimpArgs false
set_option maxRecDepth 100000
namespace Go.Proofs.Ytkljfafphnohoaa
open Go.Ev Go.RowKit Go.Fw
theorem tmod_rng (n : Int) (k : Int) (hk : 0 < k) : -k < n.tmod k ∧ n.tmod k < k := by
  rcases Int.le_total 0 n with h | h
  · have h1 := Int.tmod_nonneg k h
    have h2 := Int.tmod_lt_of_pos n hk
    omega
  · have h1 := Int.tmod_nonneg k (a := -n) (by omega)
    have h2 := Int.tmod_lt_of_pos (-n) hk
    rw [Int.neg_tmod] at h1 h2
    omega
noncomputable def Γz : Env := ⟨tab, sites, [], [], []⟩
theorem Γz_ok (σ : Nat → Int) : Γz.Ok σ := ⟨fun p h => (by cases h), fun p h => (by cases h)⟩
noncomputable def kKnown4 : Pp × List V × V := ((.l (.r (.l .h))), [], .a (.b true))
theorem known_says4 : Says Γz 20000 (.l (.r (.l .h))) [] (.a (.b true)) := by unfold Says; kernel_rfl
theorem known_pc4 (σ : Nat → Int) : PCall Try.prog σ kKnown4 := pcall_mk (CV := sites) mixed tys_ok (Γz_ok σ) tab_ok rfl sites_ok (fun e h => by cases h) rfl rfl known_says4
noncomputable def kMod (i m k : Nat) : Pp × List V × V := ((.r (.r .h)), [.a (.i .i64 (.v i)), .a (.i .i64 (.n m))], .a (.i .i64 (.n k)))
noncomputable def Γm (i m : Nat) (r : SE) : Env := ⟨tab, sites, [(.b .rem .i64 (.v i) (.n m), r)], [], []⟩
def ModSays (i m : Nat) (r : SE) (k : Nat) : Prop := Says (Γm i m r) 200 (.r (.r .h)) [.a (.i .i64 (.v i)), .a (.i .i64 (.n m))] (.a (.i .i64 (.n k)))
theorem mod_pc (σ : Nat → Int) (i m : Nat) (r : SE) (k : Nat) (hm : (SE.b .rem .i64 (.v i) (.n m)).den σ = r.den σ) (h : ModSays i m r k) : PCall Try.prog σ (kMod i m k) := by
  refine pcall_mk (CV := sites) (Γ := Γm i m r) mixed tys_ok ⟨fun p hp => ?_, fun p hp => (by cases hp)⟩ tab_ok rfl sites_ok (fun e h => by cases h) rfl rfl h
  simp only [Γm, List.mem_cons, List.not_mem_nil, or_false] at hp
  subst hp
  exact hm
theorem modP17 : ∀ k, k < 17 → ModSays 0 17 (.n k) k
  | 0, _ => by unfold ModSays Says; kernel_rfl
  | 1, _ => by unfold ModSays Says; kernel_rfl
  | 2, _ => by unfold ModSays Says; kernel_rfl
  | 3, _ => by unfold ModSays Says; kernel_rfl
  | 4, _ => by unfold ModSays Says; kernel_rfl
  | 5, _ => by unfold ModSays Says; kernel_rfl
  | 6, _ => by unfold ModSays Says; kernel_rfl
  | 7, _ => by unfold ModSays Says; kernel_rfl
  | 8, _ => by unfold ModSays Says; kernel_rfl
  | 9, _ => by unfold ModSays Says; kernel_rfl
  | 10, _ => by unfold ModSays Says; kernel_rfl
  | 11, _ => by unfold ModSays Says; kernel_rfl
  | 12, _ => by unfold ModSays Says; kernel_rfl
  | 13, _ => by unfold ModSays Says; kernel_rfl
  | 14, _ => by unfold ModSays Says; kernel_rfl
  | 15, _ => by unfold ModSays Says; kernel_rfl
  | 16, _ => by unfold ModSays Says; kernel_rfl
  | k + 17, h => absurd h (by omega)
theorem modN17 : ∀ j, j < 16 → ∃ k, k < 17 ∧ ModSays 0 17 (.g j) k
  | 0, _ => ⟨16, by omega, by unfold ModSays Says; kernel_rfl⟩
  | 1, _ => ⟨15, by omega, by unfold ModSays Says; kernel_rfl⟩
  | 2, _ => ⟨14, by omega, by unfold ModSays Says; kernel_rfl⟩
  | 3, _ => ⟨13, by omega, by unfold ModSays Says; kernel_rfl⟩
  | 4, _ => ⟨12, by omega, by unfold ModSays Says; kernel_rfl⟩
  | 5, _ => ⟨11, by omega, by unfold ModSays Says; kernel_rfl⟩
  | 6, _ => ⟨10, by omega, by unfold ModSays Says; kernel_rfl⟩
  | 7, _ => ⟨9, by omega, by unfold ModSays Says; kernel_rfl⟩
  | 8, _ => ⟨8, by omega, by unfold ModSays Says; kernel_rfl⟩
  | 9, _ => ⟨7, by omega, by unfold ModSays Says; kernel_rfl⟩
  | 10, _ => ⟨6, by omega, by unfold ModSays Says; kernel_rfl⟩
  | 11, _ => ⟨5, by omega, by unfold ModSays Says; kernel_rfl⟩
  | 12, _ => ⟨4, by omega, by unfold ModSays Says; kernel_rfl⟩
  | 13, _ => ⟨3, by omega, by unfold ModSays Says; kernel_rfl⟩
  | 14, _ => ⟨2, by omega, by unfold ModSays Says; kernel_rfl⟩
  | 15, _ => ⟨1, by omega, by unfold ModSays Says; kernel_rfl⟩
  | j + 16, h => absurd h (by omega)
theorem mod17 (σ : Nat → Int) : ∃ k : Nat, k < 17 ∧ PCall Try.prog σ (kMod 0 17 k) := by
  have hr := tmod_rng (σ 0) 17 (by omega)
  have hd : (SE.b .rem .i64 (.v 0) (.n 17)).den σ = (σ 0).tmod 17 := rfl
  cases hx : (σ 0).tmod 17 with
  | ofNat k =>
    have hk : k < 17 := by rw [hx] at hr; have := hr.2; simp only [Int.ofNat_eq_natCast] at this; omega
    exact ⟨k, hk, mod_pc σ 0 17 (.n k) k (by rw [hd, hx]; rfl) (modP17 k hk)⟩
  | negSucc j =>
    have hj : j < 16 := by rw [hx] at hr; have := hr.1; omega
    obtain ⟨k, hk, hs⟩ := modN17 j hj
    exact ⟨k, hk, mod_pc σ 0 17 (.g j) k (by rw [hd, hx]; rfl) hs⟩
theorem modP4 : ∀ k, k < 4 → ModSays 1 4 (.n k) k
  | 0, _ => by unfold ModSays Says; kernel_rfl
  | 1, _ => by unfold ModSays Says; kernel_rfl
  | 2, _ => by unfold ModSays Says; kernel_rfl
  | 3, _ => by unfold ModSays Says; kernel_rfl
  | k + 4, h => absurd h (by omega)
theorem modN4 : ∀ j, j < 3 → ∃ k, k < 4 ∧ ModSays 1 4 (.g j) k
  | 0, _ => ⟨3, by omega, by unfold ModSays Says; kernel_rfl⟩
  | 1, _ => ⟨2, by omega, by unfold ModSays Says; kernel_rfl⟩
  | 2, _ => ⟨1, by omega, by unfold ModSays Says; kernel_rfl⟩
  | j + 3, h => absurd h (by omega)
theorem mod4 (σ : Nat → Int) : ∃ k : Nat, k < 4 ∧ PCall Try.prog σ (kMod 1 4 k) := by
  have hr := tmod_rng (σ 1) 4 (by omega)
  have hd : (SE.b .rem .i64 (.v 1) (.n 4)).den σ = (σ 1).tmod 4 := rfl
  cases hx : (σ 1).tmod 4 with
  | ofNat k =>
    have hk : k < 4 := by rw [hx] at hr; have := hr.2; simp only [Int.ofNat_eq_natCast] at this; omega
    exact ⟨k, hk, mod_pc σ 1 4 (.n k) k (by rw [hd, hx]; rfl) (modP4 k hk)⟩
  | negSucc j =>
    have hj : j < 3 := by rw [hx] at hr; have := hr.1; omega
    obtain ⟨k, hk, hs⟩ := modN4 j hj
    exact ⟨k, hk, mod_pc σ 1 4 (.g j) k (by rw [hd, hx]; rfl) hs⟩
end Go.Proofs.Ytkljfafphnohoaa
