/- The two CheckCode answer alike (plain Lean). Fifth: a terminator. -/
import Derived.Test.YtbpccmnalhdpmaaGv
set_option linter.unusedVariables false
set_option linter.unusedSimpArgs false
set_option maxRecDepth 4000
namespace Go.Proofs.Ytbpccmnalhdpmaa
open Go.RowKit Go.Fw

section
variable {c : GCode List} {b : GBlock List} {u : List (Int × Int)} (hu : MapOk b b.Ops.length u) (hp : 0 ≤ b.Params ∧ b.Params ≤ 999)
/-- all of these are values of the block -/
def allV (b : GBlock List) (l : List Int) : Prop := ∀ v ∈ l, known b b.Ops.length v
include hu hp in
theorem all_L0 (l0 : List Int) : ∀ (l : List Int) (k : Nat), (m_ir_scope_all_L0 b.Params u ((b.Ops.length : Nat) : Int) l0 l k = .go () ∧ allV b l) ∨ (m_ir_scope_all_L0 b.Params u ((b.Ops.length : Nat) : Int) l0 l k = .out false ∧ ¬ allV b l)
  | [], k => .inl ⟨rfl, fun v h => (by cases h)⟩
  | a :: l, k => by
    rw [m_ir_scope_all_L0]
    have ha := has_iff hu hp a b.Ops.length
    by_cases h : m_ir_scope_has b.Params u a ((b.Ops.length : Nat) : Int) = true
    · rw [if_pos h]
      rcases all_L0 l0 l (k + 1) with ⟨h1, h2⟩ | ⟨h1, h2⟩
      · refine .inl ⟨h1, fun v hv => ?_⟩
        rcases List.mem_cons.1 hv with rfl | hv
        · exact ha.1 h
        · exact h2 v hv
      · exact .inr ⟨h1, fun q => h2 fun v hv => q v (List.mem_cons_of_mem _ hv)⟩
    · rw [if_neg h]
      exact .inr ⟨rfl, fun q => h (ha.2 (q a (List.mem_cons_self ..)))⟩
include hu hp in
theorem all_iff (l : List Int) : m_ir_scope_all b.Params u ((b.Ops.length : Nat) : Int) l = true ↔ allV b l := by
  unfold m_ir_scope_all
  rcases all_L0 hu hp l l 0 with ⟨h1, h2⟩ | ⟨h1, h2⟩
  · rw [h1]; exact ⟨fun _ => h2, fun _ => rfl⟩
  · rw [h1]; exact ⟨fun h => Bool.noConfusion h, fun h => absurd h h2⟩
end
theorem hasV (b : GBlock List) (x : Int) : m_r06_Has (m_r06_Values b) x = true ↔ known b b.Ops.length x := by rw [has_dec, decide_eq_true_eq, mem_vals]
theorem term_L0 (c : GCode List) (b : GBlock List) : ∀ (l : List Int) (k : Nat), (m_r06_term_L0 c b l k = .go () ∧ allV b l) ∨ (m_r06_term_L0 c b l k = .out false ∧ ¬ allV b l)
  | [], k => .inl ⟨rfl, fun v h => (by cases h)⟩
  | a :: l, k => by
    rw [m_r06_term_L0]
    have ha := hasV b a
    by_cases h : m_r06_Has (m_r06_Values b) a = true
    · rw [if_pos h]
      rcases term_L0 c b l (k + 1) with ⟨h1, h2⟩ | ⟨h1, h2⟩
      · refine .inl ⟨h1, fun v hv => ?_⟩
        rcases List.mem_cons.1 hv with rfl | hv
        · exact ha.1 h
        · exact h2 v hv
      · exact .inr ⟨h1, fun q => h2 fun v hv => q v (List.mem_cons_of_mem _ hv)⟩
    · rw [if_neg h]
      exact .inr ⟨rfl, fun q => h (ha.2 (q a (List.mem_cons_self ..)))⟩
theorem term_L1 (c : GCode List) (b : GBlock List) : ∀ (l : List Int) (k : Nat), (m_r06_term_L1 c b l k = .go () ∧ allV b l) ∨ (m_r06_term_L1 c b l k = .out false ∧ ¬ allV b l)
  | [], k => .inl ⟨rfl, fun v h => (by cases h)⟩
  | a :: l, k => by
    rw [m_r06_term_L1]
    have ha := hasV b a
    by_cases h : m_r06_Has (m_r06_Values b) a = true
    · rw [if_pos h]
      rcases term_L1 c b l (k + 1) with ⟨h1, h2⟩ | ⟨h1, h2⟩
      · refine .inl ⟨h1, fun v hv => ?_⟩
        rcases List.mem_cons.1 hv with rfl | hv
        · exact ha.1 h
        · exact h2 v hv
      · exact .inr ⟨h1, fun q => h2 fun v hv => q v (List.mem_cons_of_mem _ hv)⟩
    · rw [if_neg h]
      exact .inr ⟨rfl, fun q => h (ha.2 (q a (List.mem_cons_self ..)))⟩
theorem edge_L0 (c : GCode List) (b : GBlock List) (e : GEdge List) (m : Int) : ∀ (l : List Int) (k : Nat), (m_r06_edge_L0 c e (m_r06_Values b) m l k = .go () ∧ allV b l) ∨ (m_r06_edge_L0 c e (m_r06_Values b) m l k = .out false ∧ ¬ allV b l)
  | [], k => .inl ⟨rfl, fun v h => (by cases h)⟩
  | a :: l, k => by
    rw [m_r06_edge_L0]
    have ha := hasV b a
    by_cases h : m_r06_Has (m_r06_Values b) a = true
    · rw [if_pos h]
      rcases edge_L0 c b e m l (k + 1) with ⟨h1, h2⟩ | ⟨h1, h2⟩
      · refine .inl ⟨h1, fun v hv => ?_⟩
        rcases List.mem_cons.1 hv with rfl | hv
        · exact ha.1 h
        · exact h2 v hv
      · exact .inr ⟨h1, fun q => h2 fun v hv => q v (List.mem_cons_of_mem _ hv)⟩
    · rw [if_neg h]
      exact .inr ⟨rfl, fun q => h (ha.2 (q a (List.mem_cons_self ..)))⟩
/-- an edge leads to a block that takes what it gives and m more -/
def eOk (c : GCode List) (e : GEdge List) (m : Int) : Prop := 1 ≤ e.Block ∧ e.Block < (c.Blocks.length : Nat) ∧ ((e.Args.length : Nat) : Int) + m = (c.Blocks[(e.Block).toNat]?.getD (⟨(0 : Int), [], (⟨(0 : Int), (0 : Int), (0 : Int), [], (⟨(⟨(0 : Int), []⟩ : (GEdge List)), (⟨(0 : Int), []⟩ : (GEdge List))⟩ : (GArr56 List))⟩ : (GTerm List))⟩ : (GBlock List))).Params
theorem edge_iff (c : GCode List) (b : GBlock List) (e : GEdge List) (m : Int) (hm : 0 ≤ m ∧ m ≤ 1) (hs : e.Args.length ≤ 140737488355328) : m_r06_edge c e (m_r06_Values b) m = true ↔ eOk c e m ∧ allV b e.Args := by
  unfold m_r06_edge eOk
  rw [wr_small (by omega) (by omega)]
  by_cases h1 : e.Block < 1
  · rw [if_pos h1]; exact ⟨fun h => Bool.noConfusion h, fun h => by omega⟩
  · rw [if_neg h1]
    by_cases h2 : ((c.Blocks.length : Nat) : Int) ≤ e.Block
    · rw [if_pos h2]; exact ⟨fun h => Bool.noConfusion h, fun h => by omega⟩
    · rw [if_neg h2]
      split
      · rename_i h3
        exact ⟨fun h => Bool.noConfusion h, fun h => absurd h.1.2.2 h3⟩
      · rename_i h3
        have h3 := Decidable.not_not.1 h3
        rcases edge_L0 c b e m e.Args 0 with ⟨h4, h5⟩ | ⟨h4, h5⟩
        · rw [h4]; exact ⟨fun _ => ⟨⟨by omega, by omega, h3⟩, h5⟩, fun _ => rfl⟩
        · rw [h4]; exact ⟨fun h => Bool.noConfusion h, fun h => absurd h.2 h5⟩
theorem rightEdge_iff (c : GCode List) (e : GEdge List) (k m : Int) (hm : m = if k = 3 then 1 else 0) : m_ir_rightEdge c e k = true ↔ eOk c e m := by
  unfold m_ir_rightEdge eOk
  by_cases h1 : e.Block < 1
  · rw [if_pos h1]; exact ⟨fun h => Bool.noConfusion h, fun h => by omega⟩
  · rw [if_neg h1]
    by_cases h2 : ((c.Blocks.length : Nat) : Int) ≤ e.Block
    · rw [if_pos h2]; exact ⟨fun h => Bool.noConfusion h, fun h => by omega⟩
    · rw [if_neg h2, decide_eq_true_eq]
      have e1 : (if k = (3 : Int) then (((e.Args.length : Nat) : Int) + (1 : Int)) else ((e.Args.length : Nat) : Int)) = ((e.Args.length : Nat) : Int) + m := by
        subst hm
        split <;> simp
      rw [e1]
      exact ⟨fun h => ⟨by omega, by omega, h⟩, fun h => h.2.2⟩
theorem none_iff (e : GEdge List) : m_r06_none e = true ↔ e.Block = -1 ∧ e.Args = [] := by
  unfold m_r06_none
  split
  · rename_i h; simp [h]
  · rename_i h; simp [h]
theorem absent_eq (e : GEdge List) : m_ir_absent e = m_r06_none e := rfl
theorem none_all {b : GBlock List} {e : GEdge List} (h : m_r06_none e = true) : allV b e.Args := by
  rw [((none_iff e).1 h).2]; exact fun v h => (by cases h)
end Go.Proofs.Ytbpccmnalhdpmaa
