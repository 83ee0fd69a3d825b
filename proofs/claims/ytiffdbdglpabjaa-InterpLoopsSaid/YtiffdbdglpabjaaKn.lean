/- Calls of which the answer is known: Mod, known. -/
import Derived.Test.YtiffdbdglpabjaaFn
set_option linter.unusedVariables false
set_option linter.unusedSimpArgs false
set_option maxRecDepth 100000
namespace Go.Proofs.Ytiffdbdglpabjaa
open Go.Ev Go.RowKit Go.Fw
theorem tmod_rng (n : Int) (k : Int) (hk : 0 < k) : -k < n.tmod k ∧ n.tmod k < k := by
  rcases Int.le_total 0 n with h | h
  · have h1 := Int.tmod_nonneg k h
    have h2 := Int.tmod_lt_of_pos n hk
    omega
  · have h1 := Int.tmod_nonneg k (a := -n) (by omega)
    have h2 := Int.tmod_lt_of_pos (-n) hk
    rw [Int.neg_tmod] at h1 h2
    omega
noncomputable def Γz : Env := ⟨tab, sites, [], [], []⟩
theorem Γz_ok (σ : Nat → Int) : Γz.Ok σ := ⟨fun p h => (by cases h), fun p h => (by cases h)⟩
noncomputable def kKnown : Pp × List V × V := ((.l (.l (.r .h))), [], .a (.b true))
theorem known_says : Says Γz 20000 (.l (.l (.r .h))) [] (.a (.b true)) := by unfold Says; kernel_rfl
theorem known_pc (σ : Nat → Int) : PCall Try.prog σ kKnown := pcall_mk (CV := sites) mixed tys_ok (Γz_ok σ) tab_ok rfl sites_ok (fun e h => by cases h) rfl rfl known_says
noncomputable def kMod (i m k : Nat) : Pp × List V × V := ((.l (.l (.l .h))), [.a (.i .i64 (.v i)), .a (.i .i64 (.n m))], .a (.i .i64 (.n k)))
noncomputable def Γm (i m : Nat) (r : SE) : Env := ⟨tab, sites, [(.b .rem .i64 (.v i) (.n m), r)], [], []⟩
def ModSays (i m : Nat) (r : SE) (k : Nat) : Prop := Says (Γm i m r) 200 (.l (.l (.l .h))) [.a (.i .i64 (.v i)), .a (.i .i64 (.n m))] (.a (.i .i64 (.n k)))
theorem mod_pc (σ : Nat → Int) (i m : Nat) (r : SE) (k : Nat) (hm : (SE.b .rem .i64 (.v i) (.n m)).den σ = r.den σ) (h : ModSays i m r k) : PCall Try.prog σ (kMod i m k) := by
  refine pcall_mk (CV := sites) (Γ := Γm i m r) mixed tys_ok ⟨fun p hp => ?_, fun p hp => (by cases hp)⟩ tab_ok rfl sites_ok (fun e h => by cases h) rfl rfl h
  simp only [Γm, List.mem_cons, List.not_mem_nil, or_false] at hp
  subst hp
  exact hm
theorem modP30 : ∀ k, k < 30 → ModSays 0 30 (.n k) k
  | 0, _ => by unfold ModSays Says; kernel_rfl
  | 1, _ => by unfold ModSays Says; kernel_rfl
  | 2, _ => by unfold ModSays Says; kernel_rfl
  | 3, _ => by unfold ModSays Says; kernel_rfl
  | 4, _ => by unfold ModSays Says; kernel_rfl
  | 5, _ => by unfold ModSays Says; kernel_rfl
  | 6, _ => by unfold ModSays Says; kernel_rfl
  | 7, _ => by unfold ModSays Says; kernel_rfl
  | 8, _ => by unfold ModSays Says; kernel_rfl
  | 9, _ => by unfold ModSays Says; kernel_rfl
  | 10, _ => by unfold ModSays Says; kernel_rfl
  | 11, _ => by unfold ModSays Says; kernel_rfl
  | 12, _ => by unfold ModSays Says; kernel_rfl
  | 13, _ => by unfold ModSays Says; kernel_rfl
  | 14, _ => by unfold ModSays Says; kernel_rfl
  | 15, _ => by unfold ModSays Says; kernel_rfl
  | 16, _ => by unfold ModSays Says; kernel_rfl
  | 17, _ => by unfold ModSays Says; kernel_rfl
  | 18, _ => by unfold ModSays Says; kernel_rfl
  | 19, _ => by unfold ModSays Says; kernel_rfl
  | 20, _ => by unfold ModSays Says; kernel_rfl
  | 21, _ => by unfold ModSays Says; kernel_rfl
  | 22, _ => by unfold ModSays Says; kernel_rfl
  | 23, _ => by unfold ModSays Says; kernel_rfl
  | 24, _ => by unfold ModSays Says; kernel_rfl
  | 25, _ => by unfold ModSays Says; kernel_rfl
  | 26, _ => by unfold ModSays Says; kernel_rfl
  | 27, _ => by unfold ModSays Says; kernel_rfl
  | 28, _ => by unfold ModSays Says; kernel_rfl
  | 29, _ => by unfold ModSays Says; kernel_rfl
  | k + 30, h => absurd h (by omega)
theorem modN30 : ∀ j, j < 29 → ∃ k, k < 30 ∧ ModSays 0 30 (.g j) k
  | 0, _ => ⟨29, by omega, by unfold ModSays Says; kernel_rfl⟩
  | 1, _ => ⟨28, by omega, by unfold ModSays Says; kernel_rfl⟩
  | 2, _ => ⟨27, by omega, by unfold ModSays Says; kernel_rfl⟩
  | 3, _ => ⟨26, by omega, by unfold ModSays Says; kernel_rfl⟩
  | 4, _ => ⟨25, by omega, by unfold ModSays Says; kernel_rfl⟩
  | 5, _ => ⟨24, by omega, by unfold ModSays Says; kernel_rfl⟩
  | 6, _ => ⟨23, by omega, by unfold ModSays Says; kernel_rfl⟩
  | 7, _ => ⟨22, by omega, by unfold ModSays Says; kernel_rfl⟩
  | 8, _ => ⟨21, by omega, by unfold ModSays Says; kernel_rfl⟩
  | 9, _ => ⟨20, by omega, by unfold ModSays Says; kernel_rfl⟩
  | 10, _ => ⟨19, by omega, by unfold ModSays Says; kernel_rfl⟩
  | 11, _ => ⟨18, by omega, by unfold ModSays Says; kernel_rfl⟩
  | 12, _ => ⟨17, by omega, by unfold ModSays Says; kernel_rfl⟩
  | 13, _ => ⟨16, by omega, by unfold ModSays Says; kernel_rfl⟩
  | 14, _ => ⟨15, by omega, by unfold ModSays Says; kernel_rfl⟩
  | 15, _ => ⟨14, by omega, by unfold ModSays Says; kernel_rfl⟩
  | 16, _ => ⟨13, by omega, by unfold ModSays Says; kernel_rfl⟩
  | 17, _ => ⟨12, by omega, by unfold ModSays Says; kernel_rfl⟩
  | 18, _ => ⟨11, by omega, by unfold ModSays Says; kernel_rfl⟩
  | 19, _ => ⟨10, by omega, by unfold ModSays Says; kernel_rfl⟩
  | 20, _ => ⟨9, by omega, by unfold ModSays Says; kernel_rfl⟩
  | 21, _ => ⟨8, by omega, by unfold ModSays Says; kernel_rfl⟩
  | 22, _ => ⟨7, by omega, by unfold ModSays Says; kernel_rfl⟩
  | 23, _ => ⟨6, by omega, by unfold ModSays Says; kernel_rfl⟩
  | 24, _ => ⟨5, by omega, by unfold ModSays Says; kernel_rfl⟩
  | 25, _ => ⟨4, by omega, by unfold ModSays Says; kernel_rfl⟩
  | 26, _ => ⟨3, by omega, by unfold ModSays Says; kernel_rfl⟩
  | 27, _ => ⟨2, by omega, by unfold ModSays Says; kernel_rfl⟩
  | 28, _ => ⟨1, by omega, by unfold ModSays Says; kernel_rfl⟩
  | j + 29, h => absurd h (by omega)
theorem mod30 (σ : Nat → Int) : ∃ k : Nat, k < 30 ∧ PCall Try.prog σ (kMod 0 30 k) := by
  have hr := tmod_rng (σ 0) 30 (by omega)
  have hd : (SE.b .rem .i64 (.v 0) (.n 30)).den σ = (σ 0).tmod 30 := rfl
  cases hx : (σ 0).tmod 30 with
  | ofNat k =>
    have hk : k < 30 := by rw [hx] at hr; have := hr.2; simp only [Int.ofNat_eq_natCast] at this; omega
    exact ⟨k, hk, mod_pc σ 0 30 (.n k) k (by rw [hd, hx]; rfl) (modP30 k hk)⟩
  | negSucc j =>
    have hj : j < 29 := by rw [hx] at hr; have := hr.1; omega
    obtain ⟨k, hk, hs⟩ := modN30 j hj
    exact ⟨k, hk, mod_pc σ 0 30 (.g j) k (by rw [hd, hx]; rfl) hs⟩
theorem modP12 : ∀ k, k < 12 → ModSays 0 12 (.n k) k
  | 0, _ => by unfold ModSays Says; kernel_rfl
  | 1, _ => by unfold ModSays Says; kernel_rfl
  | 2, _ => by unfold ModSays Says; kernel_rfl
  | 3, _ => by unfold ModSays Says; kernel_rfl
  | 4, _ => by unfold ModSays Says; kernel_rfl
  | 5, _ => by unfold ModSays Says; kernel_rfl
  | 6, _ => by unfold ModSays Says; kernel_rfl
  | 7, _ => by unfold ModSays Says; kernel_rfl
  | 8, _ => by unfold ModSays Says; kernel_rfl
  | 9, _ => by unfold ModSays Says; kernel_rfl
  | 10, _ => by unfold ModSays Says; kernel_rfl
  | 11, _ => by unfold ModSays Says; kernel_rfl
  | k + 12, h => absurd h (by omega)
theorem modN12 : ∀ j, j < 11 → ∃ k, k < 12 ∧ ModSays 0 12 (.g j) k
  | 0, _ => ⟨11, by omega, by unfold ModSays Says; kernel_rfl⟩
  | 1, _ => ⟨10, by omega, by unfold ModSays Says; kernel_rfl⟩
  | 2, _ => ⟨9, by omega, by unfold ModSays Says; kernel_rfl⟩
  | 3, _ => ⟨8, by omega, by unfold ModSays Says; kernel_rfl⟩
  | 4, _ => ⟨7, by omega, by unfold ModSays Says; kernel_rfl⟩
  | 5, _ => ⟨6, by omega, by unfold ModSays Says; kernel_rfl⟩
  | 6, _ => ⟨5, by omega, by unfold ModSays Says; kernel_rfl⟩
  | 7, _ => ⟨4, by omega, by unfold ModSays Says; kernel_rfl⟩
  | 8, _ => ⟨3, by omega, by unfold ModSays Says; kernel_rfl⟩
  | 9, _ => ⟨2, by omega, by unfold ModSays Says; kernel_rfl⟩
  | 10, _ => ⟨1, by omega, by unfold ModSays Says; kernel_rfl⟩
  | j + 11, h => absurd h (by omega)
theorem mod12 (σ : Nat → Int) : ∃ k : Nat, k < 12 ∧ PCall Try.prog σ (kMod 0 12 k) := by
  have hr := tmod_rng (σ 0) 12 (by omega)
  have hd : (SE.b .rem .i64 (.v 0) (.n 12)).den σ = (σ 0).tmod 12 := rfl
  cases hx : (σ 0).tmod 12 with
  | ofNat k =>
    have hk : k < 12 := by rw [hx] at hr; have := hr.2; simp only [Int.ofNat_eq_natCast] at this; omega
    exact ⟨k, hk, mod_pc σ 0 12 (.n k) k (by rw [hd, hx]; rfl) (modP12 k hk)⟩
  | negSucc j =>
    have hj : j < 11 := by rw [hx] at hr; have := hr.1; omega
    obtain ⟨k, hk, hs⟩ := modN12 j hj
    exact ⟨k, hk, mod_pc σ 0 12 (.g j) k (by rw [hd, hx]; rfl) hs⟩
theorem modP7 : ∀ k, k < 7 → ModSays 1 7 (.n k) k
  | 0, _ => by unfold ModSays Says; kernel_rfl
  | 1, _ => by unfold ModSays Says; kernel_rfl
  | 2, _ => by unfold ModSays Says; kernel_rfl
  | 3, _ => by unfold ModSays Says; kernel_rfl
  | 4, _ => by unfold ModSays Says; kernel_rfl
  | 5, _ => by unfold ModSays Says; kernel_rfl
  | 6, _ => by unfold ModSays Says; kernel_rfl
  | k + 7, h => absurd h (by omega)
theorem modN7 : ∀ j, j < 6 → ∃ k, k < 7 ∧ ModSays 1 7 (.g j) k
  | 0, _ => ⟨6, by omega, by unfold ModSays Says; kernel_rfl⟩
  | 1, _ => ⟨5, by omega, by unfold ModSays Says; kernel_rfl⟩
  | 2, _ => ⟨4, by omega, by unfold ModSays Says; kernel_rfl⟩
  | 3, _ => ⟨3, by omega, by unfold ModSays Says; kernel_rfl⟩
  | 4, _ => ⟨2, by omega, by unfold ModSays Says; kernel_rfl⟩
  | 5, _ => ⟨1, by omega, by unfold ModSays Says; kernel_rfl⟩
  | j + 6, h => absurd h (by omega)
theorem mod7 (σ : Nat → Int) : ∃ k : Nat, k < 7 ∧ PCall Try.prog σ (kMod 1 7 k) := by
  have hr := tmod_rng (σ 1) 7 (by omega)
  have hd : (SE.b .rem .i64 (.v 1) (.n 7)).den σ = (σ 1).tmod 7 := rfl
  cases hx : (σ 1).tmod 7 with
  | ofNat k =>
    have hk : k < 7 := by rw [hx] at hr; have := hr.2; simp only [Int.ofNat_eq_natCast] at this; omega
    exact ⟨k, hk, mod_pc σ 1 7 (.n k) k (by rw [hd, hx]; rfl) (modP7 k hk)⟩
  | negSucc j =>
    have hj : j < 6 := by rw [hx] at hr; have := hr.1; omega
    obtain ⟨k, hk, hs⟩ := modN7 j hj
    exact ⟨k, hk, mod_pc σ 1 7 (.g j) k (by rw [hd, hx]; rfl) hs⟩
end Go.Proofs.Ytiffdbdglpabjaa
