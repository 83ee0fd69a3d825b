/- The two CheckCode answer alike (plain Lean). Sixth: terminators and heads. -/
import Derived.Test.YtbpccmnalhdpmaaGw
set_option linter.unusedVariables false
set_option linter.unusedSimpArgs false
set_option maxRecDepth 4000
namespace Go.Proofs.Ytbpccmnalhdpmaa
open Go.RowKit Go.Fw

section
variable (c : GCode List) (p : Int) (d : List (Int × Int)) (t : GTerm List) (n : Int) (x y : GEdge List)
theorem rt_1 : m_ir_rightTerm_L3 c p d t n 1 [x, y] 0 = if (m_ir_rightEdge c x t.Kind && m_r06_none y) = true then .go () else .out false := by
  cases h1 : m_ir_rightEdge c x t.Kind <;> cases h2 : m_r06_none y <;> simp [m_ir_rightTerm_L3, absent_eq, h1, h2]
theorem rt_2 : m_ir_rightTerm_L3 c p d t n 2 [x, y] 0 = if (m_ir_rightEdge c x t.Kind && m_ir_rightEdge c y t.Kind) = true then .go () else .out false := by
  cases h1 : m_ir_rightEdge c x t.Kind <;> cases h2 : m_ir_rightEdge c y t.Kind <;> simp [m_ir_rightTerm_L3, absent_eq, h1, h2]
theorem rt_0 : m_ir_rightTerm_L3 c p d t n 0 [x, y] 0 = if (m_r06_none x && m_r06_none y) = true then .go () else .out false := by
  cases h1 : m_r06_none x <;> cases h2 : m_r06_none y <;> simp [m_ir_rightTerm_L3, absent_eq, h1, h2]
end
theorem el_ite (q : Bool) : (if q = true then (.go () : Lp Unit Bool) else .out false).el (fun _ => true) (fun o => o) = q := by cases q <;> rfl
theorem within7 (n : Int) : m_ir_within n 7 = true ↔ 0 ≤ n ∧ n < 8 := by rw [within_iff]; omega

theorem term_eq (c : GCode List) (b : GBlock List) {u : List (Int × Int)} (hu : MapOk b b.Ops.length u) (hp : 0 ≤ b.Params ∧ b.Params ≤ 999) (hs0 : b.Term.To.e0.Args.length ≤ 140737488355328) (hs1 : b.Term.To.e1.Args.length ≤ 140737488355328) :
    m_ir_rightTerm c b.Params u b.Term ((b.Ops.length : Nat) : Int) = m_r06_term c b := by
  have qa := all_iff hu hp b.Term.Args
  have q0 := all_iff hu hp b.Term.To.e0.Args
  have q1 := all_iff hu hp b.Term.To.e1.Args
  have hA := has_iff hu hp b.Term.A b.Ops.length
  have hB := hasV b b.Term.A
  have hAB : m_r06_Has (m_r06_Values b) b.Term.A = m_ir_scope_has b.Params u b.Term.A ((b.Ops.length : Nat) : Int) := Bool.eq_iff_iff.2 (by rw [hA, hB])
  have e00 := edge_iff c b b.Term.To.e0 0 (by omega) hs0
  have e01 := edge_iff c b b.Term.To.e0 1 (by omega) hs0
  have e10 := edge_iff c b b.Term.To.e1 0 (by omega) hs1
  have e11 := edge_iff c b b.Term.To.e1 1 (by omega) hs1
  have r00 := rightEdge_iff c b.Term.To.e0 b.Term.Kind 0
  have r01 := rightEdge_iff c b.Term.To.e0 b.Term.Kind 1
  have r10 := rightEdge_iff c b.Term.To.e1 b.Term.Kind 0
  have r11 := rightEdge_iff c b.Term.To.e1 b.Term.Kind 1
  have n0 := none_all (b := b) (e := b.Term.To.e0)
  have n1 := none_all (b := b) (e := b.Term.To.e1)
  have w7 := within7 b.Term.N
  have t0 := term_L0 c b b.Term.Args 0
  have t1 := term_L1 c b b.Term.Args 0
  have hP : m_ir_rightTerm c b.Params u b.Term ((b.Ops.length : Nat) : Int) = (m_ir_scope_all b.Params u ((b.Ops.length : Nat) : Int) b.Term.Args && m_ir_scope_all b.Params u ((b.Ops.length : Nat) : Int) b.Term.To.e0.Args && m_ir_scope_all b.Params u ((b.Ops.length : Nat) : Int) b.Term.To.e1.Args &&
      (if b.Term.Kind = 1 then (decide (b.Term.A = 0) && decide (b.Term.N = 0) && decide (b.Term.Args.length = 0) && (m_ir_rightEdge c b.Term.To.e0 b.Term.Kind && m_r06_none b.Term.To.e1))
       else if b.Term.Kind = 2 then (m_ir_scope_has b.Params u b.Term.A ((b.Ops.length : Nat) : Int) && decide (b.Term.N = 0) && decide (b.Term.Args.length = 0) && (m_ir_rightEdge c b.Term.To.e0 b.Term.Kind && m_ir_rightEdge c b.Term.To.e1 b.Term.Kind))
       else if b.Term.Kind = 3 then (decide (b.Term.A = 0) && m_ir_within b.Term.N 7 && decide (b.Term.Args.length ≤ 4) && (m_ir_rightEdge c b.Term.To.e0 b.Term.Kind && (m_r06_none b.Term.To.e1 || m_ir_rightEdge c b.Term.To.e1 b.Term.Kind)))
       else if b.Term.Kind = 4 ∨ b.Term.Kind = 5 then (m_ir_scope_has b.Params u b.Term.A ((b.Ops.length : Nat) : Int) && decide (b.Term.N = 0) && decide (b.Term.Args.length = 0) && (m_r06_none b.Term.To.e0 && m_r06_none b.Term.To.e1))
       else if b.Term.Kind = 6 then (decide (b.Term.A = 0) && m_ir_within b.Term.N 7 && decide (b.Term.Args.length ≤ 4) && (m_r06_none b.Term.To.e0 && m_r06_none b.Term.To.e1))
       else false)) := by
    have a1 := rt_1 c b.Params u b.Term ((b.Ops.length : Nat) : Int) b.Term.To.e0 b.Term.To.e1
    have a2 := rt_2 c b.Params u b.Term ((b.Ops.length : Nat) : Int) b.Term.To.e0 b.Term.To.e1
    have a0 := rt_0 c b.Params u b.Term ((b.Ops.length : Nat) : Int) b.Term.To.e0 b.Term.To.e1
    unfold m_ir_rightTerm m_ir_rightTerm_J0 m_ir_rightTerm_J1 m_ir_rightTerm_J2
    rw [show m_ir_absent = m_r06_none from rfl]
    clear qa q0 q1 hA hB hAB e00 e01 e10 e11 r00 r01 r10 r11 n0 n1 w7 t0 t1
    by_cases k1 : b.Term.Kind = 1
    · simp only [k1, if_true, Lp.el_go] at *
      grind [Lp.el]
    · by_cases k2 : b.Term.Kind = 2
      · simp only [k2, Lp.el_go] at *
        grind [Lp.el]
      · by_cases k3 : b.Term.Kind = 3
        · simp only [k3, Lp.el_go] at *
          grind [Lp.el]
        · by_cases k4 : b.Term.Kind = 4 ∨ b.Term.Kind = 5
          · rcases k4 with k4 | k4
            · simp only [k4, Lp.el_go] at *
              grind [Lp.el]
            · simp only [k4, Lp.el_go] at *
              grind [Lp.el]
          · by_cases k6 : b.Term.Kind = 6
            · simp only [k6, Lp.el_go] at *
              generalize m_ir_scope_all b.Params u ((b.Ops.length : Nat) : Int) b.Term.Args = SA at *
              generalize m_ir_scope_all b.Params u ((b.Ops.length : Nat) : Int) b.Term.To.e0.Args = S0 at *
              generalize m_ir_scope_all b.Params u ((b.Ops.length : Nat) : Int) b.Term.To.e1.Args = S1 at *
              generalize m_ir_within b.Term.N 7 = W7 at *
              have hL : ((4 : Int) < ((b.Term.Args.length : Nat) : Int)) ↔ ¬ b.Term.Args.length ≤ 4 := by omega
              cases SA <;> cases S0 <;> cases S1 <;> cases W7 <;> by_cases hA0 : b.Term.A = 0 <;> by_cases hl : b.Term.Args.length ≤ 4 <;> simp [hA0, hL, hl, Lp.el] <;> grind [Lp.el]
            · grind [Lp.el]
  rw [hP]
  clear hP
  unfold m_r06_term
  rw [hAB]
  generalize m_ir_scope_all b.Params u ((b.Ops.length : Nat) : Int) b.Term.Args = SA at *
  generalize m_ir_scope_all b.Params u ((b.Ops.length : Nat) : Int) b.Term.To.e0.Args = S0 at *
  generalize m_ir_scope_all b.Params u ((b.Ops.length : Nat) : Int) b.Term.To.e1.Args = S1 at *
  generalize allV b b.Term.Args = VA at *
  generalize allV b b.Term.To.e0.Args = V0 at *
  generalize allV b b.Term.To.e1.Args = V1 at *
  generalize m_r06_none b.Term.To.e0 = N0 at *
  generalize m_r06_none b.Term.To.e1 = N1 at *
  generalize m_r06_edge c b.Term.To.e0 (m_r06_Values b) 0 = E00 at *
  generalize m_r06_edge c b.Term.To.e0 (m_r06_Values b) 1 = E01 at *
  generalize m_r06_edge c b.Term.To.e1 (m_r06_Values b) 0 = E10 at *
  generalize m_r06_edge c b.Term.To.e1 (m_r06_Values b) 1 = E11 at *
  generalize m_ir_rightEdge c b.Term.To.e0 b.Term.Kind = R0 at *
  generalize m_ir_rightEdge c b.Term.To.e1 b.Term.Kind = R1 at *
  generalize eOk c b.Term.To.e0 0 = O00 at *
  generalize eOk c b.Term.To.e0 1 = O01 at *
  generalize eOk c b.Term.To.e1 0 = O10 at *
  generalize eOk c b.Term.To.e1 1 = O11 at *
  generalize m_ir_scope_has b.Params u b.Term.A ((b.Ops.length : Nat) : Int) = HA at *
  generalize m_ir_within b.Term.N 7 = W7 at *
  generalize m_r06_term_L0 c b b.Term.Args 0 = T0 at *
  generalize m_r06_term_L1 c b b.Term.Args 0 = T1 at *
  generalize b.Term.Args.length = LA at *
  generalize b.Term.Kind = K at *
  generalize b.Term.N = NN at *
  generalize b.Term.A = AA at *
  clear hs0 hs1 hu hA hB hAB
  by_cases k3 : K = 3
  · subst k3
    simp only [if_true, forall_const] at *
    rcases t0 with ⟨rfl, t0⟩ | ⟨rfl, t0⟩ <;> rcases t1 with ⟨rfl, t1⟩ | ⟨rfl, t1⟩ <;> grind (splits := 30) [Lp.el]
  · rw [if_neg k3] at r00 r01 r10 r11
    clear r01 r11 e01 e11 t0
    have r00 := r00 rfl
    have r10 := r10 rfl
    simp only [if_neg k3]
    by_cases k1 : K = 1
    · subst k1
      rcases t1 with ⟨rfl, t1⟩ | ⟨rfl, t1⟩ <;> grind (splits := 30) [Lp.el]
    · by_cases k2 : K = 2
      · subst k2
        rcases t1 with ⟨rfl, t1⟩ | ⟨rfl, t1⟩ <;> grind (splits := 30) [Lp.el]
      · by_cases k4 : K = 4
        · subst k4
          rcases t1 with ⟨rfl, t1⟩ | ⟨rfl, t1⟩ <;> grind (splits := 30) [Lp.el]
        · by_cases k5 : K = 5
          · subst k5
            rcases t1 with ⟨rfl, t1⟩ | ⟨rfl, t1⟩ <;> grind (splits := 30) [Lp.el]
          · by_cases k6 : K = 6
            · subst k6
              rcases t1 with ⟨rfl, t1⟩ | ⟨rfl, t1⟩ <;> grind (splits := 30) [Lp.el]
            · rcases t1 with ⟨rfl, t1⟩ | ⟨rfl, t1⟩ <;> simp [k1, k2, k4, k5, k6, Lp.el]
end Go.Proofs.Ytbpccmnalhdpmaa
