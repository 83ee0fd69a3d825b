/- The two CheckCode answer alike (plain Lean). Fourth: a block. -/
import Derived.Test.YtbpccmnalhdpmaaGu
set_option linter.unusedVariables false
set_option linter.unusedSimpArgs false
set_option maxRecDepth 4000
namespace Go.Proofs.Ytbpccmnalhdpmaa
open Go.RowKit Go.Fw

section
variable {c : GCode List} {b : GBlock List} {u : List (Int × Int)} (hu : MapOk b b.Ops.length u) (hp : 0 ≤ b.Params ∧ b.Params ≤ 999) (hc : 0 ≤ c.Params ∧ c.Params ≤ 4)
include hu hp in
theorem rightOp_iff (o : GOp) (i : Nat) : m_ir_rightOp c b.Params u o ((i : Nat) : Int) = true ↔ (m_r06_UsesA o.Kind = true → known b i o.A) ∧ (m_r06_UsesB o.Kind = true → known b i o.B) ∧
    ((o.Kind = 19 ∨ o.Kind = 20 ∨ o.Kind = 21) → 0 ≤ o.Ctx ∧ o.Ctx < (c.Contexts.length : Nat)) ∧ ((o.Kind = 15 ∨ o.Kind = 16 ∨ o.Kind = 17) → 0 ≤ o.N ∧ o.N < (c.Objects.length : Nat)) ∧ ((o.Kind = 19 ∨ o.Kind = 20) → 0 ≤ o.N ∧ o.N ≤ 9999) := by
  have ha := has_iff hu hp o.A i
  have hb := has_iff hu hp o.B i
  have g2 := f2 o.Kind
  have g4 := f4 o.Kind
  have g16 := f16 o.Kind
  have wc := within_iff o.Ctx (((c.Contexts.length : Nat) : Int) - 1)
  have wn := within_iff o.N (((c.Objects.length : Nat) : Int) - 1)
  have wm := within_iff o.N 9999
  rw [usesA_iff, usesB_iff]
  unfold m_ir_rightOp
  generalize m_ir_scope_has b.Params u o.A ((i : Nat) : Int) = HA at ha
  generalize m_ir_scope_has b.Params u o.B ((i : Nat) : Int) = HB at hb
  generalize m_ir_within o.Ctx (((c.Contexts.length : Nat) : Int) - 1) = WC at wc
  generalize known b i o.A = KA at ha
  generalize known b i o.B = KB at hb
  split
  · rename_i h
    refine ⟨fun h => Bool.noConfusion h, fun q => ?_⟩
    exfalso
    simp only [Bool.or_eq_true, Bool.and_eq_true, Bool.not_eq_true', decide_eq_true_eq, ← Bool.not_eq_true, ne_eq, g2, g4, g16, ha, hb, wc, Decidable.not_not] at h
    rcases h with (h | h) | h
    · exact h.2 (q.1 h.1)
    · exact h.2 (q.2.1 h.1)
    · have := q.2.2.1 h.1
      exact h.2 (by omega)
  · rename_i h
    simp only [Bool.or_eq_true, Bool.and_eq_true, Bool.not_eq_true', decide_eq_true_eq, ← Bool.not_eq_true, ne_eq, g2, g4, g16, ha, hb, wc, Decidable.not_not] at h
    have q1 : ((2 ≤ o.Kind ∧ o.Kind ≤ 16) ∨ o.Kind = 18) → KA := fun k => Classical.byContradiction fun n => h (.inl (.inl ⟨k, n⟩))
    have q2 : ((3 ≤ o.Kind ∧ o.Kind ≤ 14) ∨ o.Kind = 16) → KB := fun k => Classical.byContradiction fun n => h (.inl (.inr ⟨k, n⟩))
    have q3 : (o.Kind = 19 ∨ o.Kind = 20 ∨ o.Kind = 21) → 0 ≤ o.Ctx ∧ o.Ctx < (c.Contexts.length : Nat) := fun k => by
      have : 0 ≤ o.Ctx ∧ o.Ctx ≤ ((c.Contexts.length : Nat) : Int) - 1 := Classical.byContradiction fun n => h (.inr ⟨k, n⟩)
      omega
    split
    · rename_i k
      simp only [Bool.or_eq_true, decide_eq_true_eq] at k
      rw [wn]
      exact ⟨fun w => ⟨q1, q2, q3, fun _ => by omega, fun _ => by omega⟩, fun w => by have := w.2.2.2.1 k; omega⟩
    · rename_i k
      simp only [Bool.or_eq_true, decide_eq_true_eq] at k
      split
      · rename_i k2
        simp only [Bool.or_eq_true, decide_eq_true_eq] at k2
        rw [wm]
        exact ⟨fun w => ⟨q1, q2, q3, fun k3 => absurd k3 k, fun _ => w⟩, fun w => w.2.2.2.2 k2⟩
      · rename_i k2
        simp only [Bool.or_eq_true, decide_eq_true_eq] at k2
        exact ⟨fun _ => ⟨q1, q2, q3, fun k3 => absurd k3 k, fun k3 => absurd k3 k2⟩, fun _ => rfl⟩
include hu hp hc in
theorem cond_iff (o : GOp) (i : Nat) : (((!(m_ir_clean o)) || (!(m_ir_rightOp c b.Params u o ((i : Nat) : Int)))) || ((decide (o.Kind = (21 : Int))) && (!(m_ir_rightBind c b.Params u o ((b.Ops.length : Nat) : Int))))) = true ↔ ¬ (headOk b i o ∧ restOk c b o) := by
  have h1 := clean_iff o
  have h2 := rightOp_iff (c := c) hu hp o i
  have h3 := source_iff hu hp hc o
  simp only [Bool.or_eq_true, Bool.and_eq_true, Bool.not_eq_true', decide_eq_true_eq, ← Bool.not_eq_true, h1, h2, h3]
  unfold headOk restOk
  constructor
  · rintro ((h | h) | h) ⟨⟨g1, g2, g3, g4, g5⟩, r1, r2, r3⟩
    · exact h ⟨⟨g1, g2⟩, g3⟩
    · refine h ⟨g4, g5, fun k => ?_, r1, fun k => by have := r2 k; omega⟩
      rcases k with k | k | k
      · have := r2 (.inl k); omega
      · have := r2 (.inr k); omega
      · have := r3 k; omega
    · exact h.2 (r3 h.1).2.2
  · intro h
    refine Classical.byContradiction fun n => h ?_
    have n1 : (1 ≤ o.Kind ∧ o.Kind ≤ 21) ∧ m_r06_plain o = true := Classical.byContradiction fun q => n (.inl (.inl q))
    have n2 := Classical.byContradiction fun q => n (.inl (.inr q))
    have n3 : o.Kind = 21 → _ := fun k => Classical.byContradiction fun q => n (.inr ⟨k, q⟩)
    obtain ⟨a1, a2, a3, a4, a5⟩ := n2
    refine ⟨⟨n1.1.1, n1.1.2, n1.2, a1, a2⟩, a4, fun k => ?_, fun k => ?_⟩
    · have b1 := a5 k
      have b2 := a3 (by omega)
      omega
    · have b2 := a3 (.inr (.inr k))
      obtain ⟨c1, c2, c3, c4, c5⟩ := n3 k
      exact ⟨b2.1, b2.2, c1, c2, c3, c4, c5⟩
include hu hp hc in
theorem block_L1 : ∀ (l : List GOp) (i : Nat), b.Ops.drop i = l →
    (m_ir_rightBlock_L1 c b u l i = .go () ∧ ∀ j o, i ≤ j → b.Ops[j]? = some o → headOk b j o ∧ restOk c b o) ∨ (m_ir_rightBlock_L1 c b u l i = .out false ∧ ∃ j o, b.Ops[j]? = some o ∧ ¬ (headOk b j o ∧ restOk c b o))
  | [], i, hl => by
    have hi : b.Ops.length ≤ i := by simpa using hl
    exact .inl ⟨rfl, fun j o hj ho => by have := (List.getElem?_eq_some_iff.1 ho).1; omega⟩
  | o :: l, i, hl => by
    obtain ⟨h1, h2⟩ := drop_get hl
    rw [m_ir_rightBlock_L1]
    by_cases hok : headOk b i o ∧ restOk c b o
    · rw [if_neg (by rw [cond_iff hu hp hc]; exact fun h => h hok)]
      rcases block_L1 l (i + 1) h2 with ⟨h3, h4⟩ | h3
      · refine .inl ⟨h3, fun j o' hj ho => ?_⟩
        rcases Nat.lt_or_ge i j with hij | hij
        · exact h4 j o' hij ho
        · obtain rfl : j = i := by omega
          rw [h1] at ho; cases ho; exact hok
      · exact .inr h3
    · rw [if_pos ((cond_iff hu hp hc o i).2 hok)]
      exact .inr ⟨rfl, i, o, h1, hok⟩
end
/-- a block's operations are right to both, and then the terminator decides -/
theorem block_eq (c : GCode List) (b : GBlock List) (hp : 0 ≤ b.Params ∧ b.Params ≤ 999) (hc : 0 ≤ c.Params ∧ c.Params ≤ 4) :
    (m_r06_ops c b = true ∧ ∃ u, MapOk b b.Ops.length u ∧ m_ir_rightBlock c b = m_ir_rightTerm c b.Params u b.Term ((b.Ops.length : Nat) : Int)) ∨ (m_r06_ops c b = false ∧ m_ir_rightBlock c b = false) := by
  have h0 := ops_iff c b
  unfold m_ir_rightBlock
  rcases block_L0 c b b.Ops 0 [] rfl (fun v x => ⟨fun h => (by cases h), fun ⟨j, o, _, h, _⟩ => absurd h (by omega)⟩) (fun j o h => by omega) with ⟨u, h1, h2, h3⟩ | ⟨h1, j, o, h2, h3⟩
  · rw [h1, Lp.el_go]
    rcases block_L1 h2 hp hc b.Ops 0 rfl with ⟨h4, h5⟩ | ⟨h4, j, o, h5, h6⟩
    · rw [h4, Lp.el_go]
      exact .inl ⟨h0.2 fun j o ho => ⟨(h5 j o (Nat.zero_le _) ho).1, h3 j o ho, (h5 j o (Nat.zero_le _) ho).2⟩, u, h2, rfl⟩
    · rw [h4, Lp.el_out]
      exact .inr ⟨Bool.eq_false_iff.2 fun h => h6 ⟨(h0.1 h j o h5).1, (h0.1 h j o h5).2.2⟩, rfl⟩
  · rw [h1, Lp.el_out]
    exact .inr ⟨Bool.eq_false_iff.2 fun h => h3 (h0.1 h j o h2).2.1, rfl⟩
end Go.Proofs.Ytbpccmnalhdpmaa
