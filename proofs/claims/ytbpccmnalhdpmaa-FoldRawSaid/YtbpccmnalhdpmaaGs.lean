/- The two CheckCode answer alike (plain Lean). Second: the program's words. -/
import Derived.Test.YtbpccmnalhdpmaaGr
set_option linter.unusedVariables false
set_option linter.unusedSimpArgs false
set_option maxRecDepth 4000
namespace Go.Proofs.Ytbpccmnalhdpmaa
open Go.RowKit Go.Fw

/-- what the kinds use -/
theorem fields_cases (k : Int) : (k = 1 ∧ m_ir_fields k = 9) ∨ (k = 2 ∧ m_ir_fields k = 3) ∨ (3 ≤ k ∧ k ≤ 14 ∧ m_ir_fields k = 7) ∨ (k = 15 ∧ m_ir_fields k = 11) ∨ (k = 16 ∧ m_ir_fields k = 14) ∨ (k = 17 ∧ m_ir_fields k = 8) ∨ (k = 18 ∧ m_ir_fields k = 2) ∨ ((k = 19 ∨ k = 20) ∧ m_ir_fields k = 24) ∨ (k = 21 ∧ m_ir_fields k = 48) ∨ ((k < 1 ∨ 21 < k) ∧ m_ir_fields k = 0) := by
  have hk : k = 1 ∨ k = 2 ∨ (3 ≤ k ∧ k ≤ 14) ∨ k = 15 ∨ k = 16 ∨ k = 17 ∨ k = 18 ∨ (k = 19 ∨ k = 20) ∨ k = 21 ∨ (k < 1 ∨ 21 < k) := by omega
  rcases hk with rfl | rfl | h | rfl | rfl | rfl | rfl | (rfl | rfl) | rfl | h
  · exact .inl ⟨rfl, rfl⟩
  · exact .inr (.inl ⟨rfl, rfl⟩)
  · exact .inr (.inr (.inl ⟨h.1, h.2, by unfold m_ir_fields; rw [if_neg (by omega), if_neg (by omega), if_pos h.1, if_pos h.2]⟩))
  · exact .inr (.inr (.inr (.inl ⟨rfl, rfl⟩)))
  · exact .inr (.inr (.inr (.inr (.inl ⟨rfl, rfl⟩))))
  · exact .inr (.inr (.inr (.inr (.inr (.inl ⟨rfl, rfl⟩)))))
  · exact .inr (.inr (.inr (.inr (.inr (.inr (.inl ⟨rfl, rfl⟩))))))
  · exact .inr (.inr (.inr (.inr (.inr (.inr (.inr (.inl ⟨.inl rfl, rfl⟩)))))))
  · exact .inr (.inr (.inr (.inr (.inr (.inr (.inr (.inl ⟨.inr rfl, rfl⟩)))))))
  · exact .inr (.inr (.inr (.inr (.inr (.inr (.inr (.inr (.inl ⟨rfl, rfl⟩))))))))
  · refine .inr (.inr (.inr (.inr (.inr (.inr (.inr (.inr (.inr ⟨h, ?_⟩))))))))
    unfold m_ir_fields
    rcases h with h | h
    · rw [if_neg (by omega), if_neg (by omega), if_neg (by omega)]
    · rw [if_neg (by omega), if_neg (by omega), if_pos (by omega), if_neg (by omega), if_neg (by omega), if_neg (by omega), if_neg (by omega), if_neg (by omega), if_neg (by omega), if_neg (by omega), if_neg (by omega)]
theorem bw9 : bwAnd 9 1 = 1 ∧ bwAnd 9 2 = 0 ∧ bwAnd 9 4 = 0 ∧ bwAnd 9 8 = 8 ∧ bwAnd 9 16 = 0 ∧ bwAnd 9 32 = 0 := by decide
theorem bw3 : bwAnd 3 1 = 1 ∧ bwAnd 3 2 = 2 ∧ bwAnd 3 4 = 0 ∧ bwAnd 3 8 = 0 ∧ bwAnd 3 16 = 0 ∧ bwAnd 3 32 = 0 := by decide
theorem bw7 : bwAnd 7 1 = 1 ∧ bwAnd 7 2 = 2 ∧ bwAnd 7 4 = 4 ∧ bwAnd 7 8 = 0 ∧ bwAnd 7 16 = 0 ∧ bwAnd 7 32 = 0 := by decide
theorem bw11 : bwAnd 11 1 = 1 ∧ bwAnd 11 2 = 2 ∧ bwAnd 11 4 = 0 ∧ bwAnd 11 8 = 8 ∧ bwAnd 11 16 = 0 ∧ bwAnd 11 32 = 0 := by decide
theorem bw14 : bwAnd 14 1 = 0 ∧ bwAnd 14 2 = 2 ∧ bwAnd 14 4 = 4 ∧ bwAnd 14 8 = 8 ∧ bwAnd 14 16 = 0 ∧ bwAnd 14 32 = 0 := by decide
theorem bw8 : bwAnd 8 1 = 0 ∧ bwAnd 8 2 = 0 ∧ bwAnd 8 4 = 0 ∧ bwAnd 8 8 = 8 ∧ bwAnd 8 16 = 0 ∧ bwAnd 8 32 = 0 := by decide
theorem bw2 : bwAnd 2 1 = 0 ∧ bwAnd 2 2 = 2 ∧ bwAnd 2 4 = 0 ∧ bwAnd 2 8 = 0 ∧ bwAnd 2 16 = 0 ∧ bwAnd 2 32 = 0 := by decide
theorem bw24 : bwAnd 24 1 = 0 ∧ bwAnd 24 2 = 0 ∧ bwAnd 24 4 = 0 ∧ bwAnd 24 8 = 8 ∧ bwAnd 24 16 = 16 ∧ bwAnd 24 32 = 0 := by decide
theorem bw48 : bwAnd 48 1 = 0 ∧ bwAnd 48 2 = 0 ∧ bwAnd 48 4 = 0 ∧ bwAnd 48 8 = 0 ∧ bwAnd 48 16 = 16 ∧ bwAnd 48 32 = 32 := by decide
theorem bw0 : bwAnd 0 1 = 0 ∧ bwAnd 0 2 = 0 ∧ bwAnd 0 4 = 0 ∧ bwAnd 0 8 = 0 ∧ bwAnd 0 16 = 0 ∧ bwAnd 0 32 = 0 := by decide
theorem def_iff (k : Int) : m_r06_Defines k = true ↔ 1 ≤ k ∧ k ≤ 15 := by
  unfold m_r06_Defines
  split
  · simp; omega
  · simp; omega
theorem usesA_iff (k : Int) : m_r06_UsesA k = true ↔ (2 ≤ k ∧ k ≤ 16) ∨ k = 18 := by unfold m_r06_UsesA; simp
theorem usesB_iff (k : Int) : m_r06_UsesB k = true ↔ (3 ≤ k ∧ k ≤ 14) ∨ k = 16 := by unfold m_r06_UsesB; simp
theorem f1 (k : Int) : bwAnd (m_ir_fields k) 1 = 0 ↔ ¬ (1 ≤ k ∧ k ≤ 15) := by
  rcases fields_cases k with h | h | h | h | h | h | h | h | h | h
  · rw [h.2, bw9.1]; omega
  · rw [h.2, bw3.1]; omega
  · rw [h.2.2, bw7.1]; omega
  · rw [h.2, bw11.1]; omega
  · rw [h.2, bw14.1]; omega
  · rw [h.2, bw8.1]; omega
  · rw [h.2, bw2.1]; omega
  · rw [h.2, bw24.1]; omega
  · rw [h.2, bw48.1]; omega
  · rw [h.2, bw0.1]; omega
theorem f2 (k : Int) : bwAnd (m_ir_fields k) 2 = 0 ↔ ¬ ((2 ≤ k ∧ k ≤ 16) ∨ k = 18) := by
  rcases fields_cases k with h | h | h | h | h | h | h | h | h | h
  · rw [h.2, bw9.2.1]; omega
  · rw [h.2, bw3.2.1]; omega
  · rw [h.2.2, bw7.2.1]; omega
  · rw [h.2, bw11.2.1]; omega
  · rw [h.2, bw14.2.1]; omega
  · rw [h.2, bw8.2.1]; omega
  · rw [h.2, bw2.2.1]; omega
  · rw [h.2, bw24.2.1]; omega
  · rw [h.2, bw48.2.1]; omega
  · rw [h.2, bw0.2.1]; omega
theorem f4 (k : Int) : bwAnd (m_ir_fields k) 4 = 0 ↔ ¬ ((3 ≤ k ∧ k ≤ 14) ∨ k = 16) := by
  rcases fields_cases k with h | h | h | h | h | h | h | h | h | h
  · rw [h.2, bw9.2.2.1]; omega
  · rw [h.2, bw3.2.2.1]; omega
  · rw [h.2.2, bw7.2.2.1]; omega
  · rw [h.2, bw11.2.2.1]; omega
  · rw [h.2, bw14.2.2.1]; omega
  · rw [h.2, bw8.2.2.1]; omega
  · rw [h.2, bw2.2.2.1]; omega
  · rw [h.2, bw24.2.2.1]; omega
  · rw [h.2, bw48.2.2.1]; omega
  · rw [h.2, bw0.2.2.1]; omega
theorem f8 (k : Int) : bwAnd (m_ir_fields k) 8 = 0 ↔ ¬ (k = 1 ∨ k = 15 ∨ k = 16 ∨ k = 17 ∨ k = 19 ∨ k = 20) := by
  rcases fields_cases k with h | h | h | h | h | h | h | h | h | h
  · rw [h.2, bw9.2.2.2.1]; omega
  · rw [h.2, bw3.2.2.2.1]; omega
  · rw [h.2.2, bw7.2.2.2.1]; omega
  · rw [h.2, bw11.2.2.2.1]; omega
  · rw [h.2, bw14.2.2.2.1]; omega
  · rw [h.2, bw8.2.2.2.1]; omega
  · rw [h.2, bw2.2.2.2.1]; omega
  · rw [h.2, bw24.2.2.2.1]; omega
  · rw [h.2, bw48.2.2.2.1]; omega
  · rw [h.2, bw0.2.2.2.1]; omega
theorem f16 (k : Int) : bwAnd (m_ir_fields k) 16 = 0 ↔ ¬ (k = 19 ∨ k = 20 ∨ k = 21) := by
  rcases fields_cases k with h | h | h | h | h | h | h | h | h | h
  · rw [h.2, bw9.2.2.2.2.1]; omega
  · rw [h.2, bw3.2.2.2.2.1]; omega
  · rw [h.2.2, bw7.2.2.2.2.1]; omega
  · rw [h.2, bw11.2.2.2.2.1]; omega
  · rw [h.2, bw14.2.2.2.2.1]; omega
  · rw [h.2, bw8.2.2.2.2.1]; omega
  · rw [h.2, bw2.2.2.2.2.1]; omega
  · rw [h.2, bw24.2.2.2.2.1]; omega
  · rw [h.2, bw48.2.2.2.2.1]; omega
  · rw [h.2, bw0.2.2.2.2.1]; omega
theorem f32 (k : Int) : bwAnd (m_ir_fields k) 32 = 0 ↔ ¬ (k = 21) := by
  rcases fields_cases k with h | h | h | h | h | h | h | h | h | h
  · rw [h.2, bw9.2.2.2.2.2]; omega
  · rw [h.2, bw3.2.2.2.2.2]; omega
  · rw [h.2.2, bw7.2.2.2.2.2]; omega
  · rw [h.2, bw11.2.2.2.2.2]; omega
  · rw [h.2, bw14.2.2.2.2.2]; omega
  · rw [h.2, bw8.2.2.2.2.2]; omega
  · rw [h.2, bw2.2.2.2.2.2]; omega
  · rw [h.2, bw24.2.2.2.2.2]; omega
  · rw [h.2, bw48.2.2.2.2.2]; omega
  · rw [h.2, bw0.2.2.2.2.2]; omega
theorem f0 (k : Int) : m_ir_fields k = 0 ↔ ¬ (1 ≤ k ∧ k ≤ 21) := by
  rcases fields_cases k with h | h | h | h | h | h | h | h | h | h
  · rw [h.2]; omega
  · rw [h.2]; omega
  · rw [h.2.2]; omega
  · rw [h.2]; omega
  · rw [h.2]; omega
  · rw [h.2]; omega
  · rw [h.2]; omega
  · rw [h.2]; omega
  · rw [h.2]; omega
  · rw [h.2]; omega
theorem within_iff (n m : Int) : m_ir_within n m = true ↔ 0 ≤ n ∧ n ≤ m := by
  unfold m_ir_within
  split
  · simp; omega
  · simp; omega
theorem clean1_iff (u v f : Int) : m_ir_clean_1 u v f = true ↔ bwAnd f u = 0 ∧ v ≠ 0 := by
  unfold m_ir_clean_1
  split
  · rename_i h; simp [h]
  · rename_i h; simp [h]
theorem plain_iff (o : GOp) : m_r06_plain o = true ↔ (¬ (1 ≤ o.Kind ∧ o.Kind ≤ 15) → o.Dst = 0) ∧ (¬ ((2 ≤ o.Kind ∧ o.Kind ≤ 16) ∨ o.Kind = 18) → o.A = 0) ∧ (¬ ((3 ≤ o.Kind ∧ o.Kind ≤ 14) ∨ o.Kind = 16) → o.B = 0) ∧
    (¬ (o.Kind = 1 ∨ o.Kind = 15 ∨ o.Kind = 16 ∨ o.Kind = 17 ∨ o.Kind = 19 ∨ o.Kind = 20) → o.N = 0) ∧ (¬ (o.Kind = 19 ∨ o.Kind = 20 ∨ o.Kind = 21) → o.Ctx = 0) ∧ (¬ o.Kind = 21 → o.Var = 0 ∧ o.Piece = 0 ∧ [o.Src.Kind, o.Src.Val, o.Src.Add] = [0, 0, 0]) := by
  have d := def_iff o.Kind
  have ua := usesA_iff o.Kind
  have ub := usesB_iff o.Kind
  unfold m_r06_plain
  generalize [o.Src.Kind, o.Src.Val, o.Src.Add] = q
  generalize m_r06_Defines o.Kind = D at d
  generalize m_r06_UsesA o.Kind = A at ua
  generalize m_r06_UsesB o.Kind = B at ub
  by_cases c1 : ((((!D) && (decide (o.Dst ≠ (0 : Int)))) || ((!A) && (decide (o.A ≠ (0 : Int))))) || ((!B) && (decide (o.B ≠ (0 : Int))))) = true
  · rw [if_pos c1]
    refine ⟨fun h => Bool.noConfusion h, fun h => ?_⟩
    exfalso
    simp only [Bool.or_eq_true, Bool.and_eq_true, Bool.not_eq_true', decide_eq_true_eq, ← Bool.not_eq_true, d, ua, ub] at c1
    rcases c1 with (c1 | c1) | c1
    · exact c1.2 (h.1 c1.1)
    · exact c1.2 (h.2.1 c1.1)
    · exact c1.2 (h.2.2.1 c1.1)
  · rw [if_neg c1]
    simp only [Bool.or_eq_true, Bool.and_eq_true, Bool.not_eq_true', decide_eq_true_eq, ← Bool.not_eq_true, d, ua, ub] at c1
    split
    · rename_i c2
      refine ⟨fun h => Bool.noConfusion h, fun h => ?_⟩
      exfalso
      simp only [Bool.or_eq_true, Bool.and_eq_true, Bool.not_eq_true', decide_eq_true_eq, ← Bool.not_eq_true] at c2
      have h4 := h.2.2.2.1
      have h5 := h.2.2.2.2.1
      omega
    · rename_i c2
      simp only [Bool.or_eq_true, Bool.and_eq_true, Bool.not_eq_true', decide_eq_true_eq, ← Bool.not_eq_true] at c2 ⊢
      constructor
      · intro h
        refine ⟨by omega, by omega, by omega, by omega, by omega, fun hk => ?_⟩
        rcases h with h | h
        · exact absurd h hk
        · exact ⟨h.1.1, h.1.2, h.2⟩
      · intro h
        by_cases hk : o.Kind = 21
        · exact .inl hk
        · have := h.2.2.2.2.2 hk
          exact .inr ⟨⟨this.1, this.2.1⟩, this.2.2⟩
theorem clean_iff (o : GOp) : m_ir_clean o = true ↔ (1 ≤ o.Kind ∧ o.Kind ≤ 21) ∧ m_r06_plain o = true := by
  rw [plain_iff]
  unfold m_ir_clean
  by_cases h0 : m_ir_fields o.Kind = 0
  · rw [if_pos h0]
    refine ⟨fun h => Bool.noConfusion h, fun h => absurd h.1 ((f0 _).1 h0)⟩
  · rw [if_neg h0]
    have h1 : 1 ≤ o.Kind ∧ o.Kind ≤ 21 := Decidable.byContradiction fun h => h0 ((f0 _).2 h)
    generalize [o.Src.Kind, o.Src.Val, o.Src.Add] = q
    simp only [Bool.not_eq_true', ← Bool.not_eq_true, Bool.or_eq_true, Bool.and_eq_true, decide_eq_true_eq, clean1_iff, f1, f2, f4, f8, f16, f32]
    constructor
    · intro h
      refine ⟨h1, by omega, by omega, by omega, by omega, by omega, fun hk => ⟨by omega, by omega, ?_⟩⟩
      exact Decidable.byContradiction fun hq => h (.inr ⟨hk, hq⟩)
    · rintro ⟨_, g1, g2, g3, g4, g5, g6⟩ h
      rcases h with h | h
      · by_cases hk : o.Kind = 21
        · omega
        · have := g6 hk
          omega
      · exact h.2 (g6 h.1).2.2
end Go.Proofs.Ytbpccmnalhdpmaa
