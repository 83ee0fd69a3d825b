/- CheckerLimits: the walk, by the evaluator. -/
import Derived.Test.YtikafojlhinonaaRM0
import Derived.Test.YtikafojlhinonaaRM1
import Derived.Test.YtikafojlhinonaaRM2
import Derived.Test.YtikafojlhinonaaRM3
import Derived.Test.YtikafojlhinonaaRM4
set_option linter.unusedVariables false
set_option linter.unusedSimpArgs false
set_option maxRecDepth 100000
namespace Go.Proofs.Ytikafojlhinonaa
open Go.Ev Go.RowKit Go.Fw
theorem checkerLimits_walk (a : Int) (w : World) : Calls Try.prog 3 #[.int .i64 a] w (Ret fun v w' => v = .bool true ∧ Below w.heap.size w w') := by
  let σ : Sg := ⟨fun _ => a, none⟩
  obtain ⟨k, hk, hm⟩ := mod5 σ
  have go : ∀ (Γ : Env), Γ.vals = [] → Γ.conds = [] → Γ.fns = tab → Γ.sites = sites → Γ.pc.All (KnQ Try.prog sites σ) → Yes Γ 20000 (.l (.l .h)) [.a (.i .i64 (.v 0))] → Calls Try.prog 3 #[.int .i64 a] w (Ret fun v w' => v = .bool true ∧ Below w.heap.size w w') := by
    intro Γ h1 h2 h3 h4 h5 h6
    exact call_top (σ := σ) mixed tys_ok ⟨fun p hp => (by rw [h1] at hp; cases hp), fun p hp => (by rw [h2] at hp; cases hp)⟩ (by rw [h3]; exact tab_ok) h4 sites_ok h5 (vs := [.a (.i .i64 (.v 0))]) (args := [.int .i64 a]) ⟨_, _, rfl, rfl, rfl⟩ h6 w
  match k, hk, hm with
  | 0, _, hm => exact go Γc0 rfl rfl rfl rfl (pcM0_ok σ hm) lim0
  | 1, _, hm => exact go Γc1 rfl rfl rfl rfl (pcM1_ok σ hm) lim1
  | 2, _, hm => exact go Γc2 rfl rfl rfl rfl (pcM2_ok σ hm) lim2
  | 3, _, hm => exact go Γc3 rfl rfl rfl rfl (pcM3_ok σ hm) lim3
  | 4, _, hm => exact go Γc4 rfl rfl rfl rfl (pcM4_ok σ hm) lim4
  | k + 5, h, _ => exact absurd h (by omega)
end Go.Proofs.Ytikafojlhinonaa
