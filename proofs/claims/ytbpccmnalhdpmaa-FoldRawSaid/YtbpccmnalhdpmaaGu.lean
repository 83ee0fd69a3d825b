/- The two CheckCode answer alike (plain Lean). Third: a block's operations. -/
import Derived.Test.YtbpccmnalhdpmaaGs
set_option linter.unusedVariables false
set_option linter.unusedSimpArgs false
set_option maxRecDepth 4000
namespace Go.Proofs.Ytbpccmnalhdpmaa
open Go.RowKit Go.Fw

theorem wr_small {n : Int} (h1 : -9223372036854775808 ≤ n) (h2 : n ≤ 9223372036854775807) : wr n = n := w64 h1 h2
/-- the map holds what has been defined ahead of operation i -/
def MapOk (b : GBlock List) (i : Nat) (u : List (Int × Int)) : Prop := ∀ v x, mget u v = some x ↔ ∃ j o, x = ((j : Nat) : Int) ∧ j < i ∧ b.Ops[j]? = some o ∧ m_r06_Defines o.Kind = true ∧ o.Dst = v
theorem block_L0 (c : GCode List) (b : GBlock List) : ∀ (l : List GOp) (i : Nat) (s : List (Int × Int)), b.Ops.drop i = l → MapOk b i s → (∀ j o, j < i → b.Ops[j]? = some o → defOk b j o) →
    (∃ u, m_ir_rightBlock_L0 c b l i s = .go u ∧ MapOk b b.Ops.length u ∧ ∀ j o, b.Ops[j]? = some o → defOk b j o) ∨ (m_ir_rightBlock_L0 c b l i s = .out false ∧ ∃ j o, b.Ops[j]? = some o ∧ ¬ defOk b j o)
  | [], i, s, hl, hs, hd => by
    have hi : b.Ops.length ≤ i := by simpa using hl
    refine .inl ⟨s, rfl, fun v x => ?_, fun j o ho => hd j o (by have := (List.getElem?_eq_some_iff.1 ho).1; omega) ho⟩
    rw [hs]
    constructor
    · rintro ⟨j, o, h1, h2, h3, h4⟩
      exact ⟨j, o, h1, (List.getElem?_eq_some_iff.1 h3).1, h3, h4⟩
    · rintro ⟨j, o, h1, h2, h3, h4⟩
      exact ⟨j, o, h1, by omega, h3, h4⟩
  | o :: l, i, s, hl, hs, hd => by
    obtain ⟨h1, h2⟩ := drop_get hl
    rw [m_ir_rightBlock_L0]
    have hdi := def_iff o.Kind
    by_cases hD : m_r06_Defines o.Kind = true
    · rw [if_neg (by rw [f1]; exact fun h => h (hdi.1 hD))]
      have hsome : (mget s o.Dst).isSome = true ↔ ∃ j o', j < i ∧ b.Ops[j]? = some o' ∧ m_r06_Defines o'.Kind = true ∧ o'.Dst = o.Dst := by
        constructor
        · intro h
          obtain ⟨x, hx⟩ := Option.isSome_iff_exists.1 h
          obtain ⟨j, o', q1, q2, q3, q4, q5⟩ := (hs _ _).1 hx
          exact ⟨j, o', q2, q3, q4, q5⟩
        · rintro ⟨j, o', q2, q3, q4, q5⟩
          rw [(hs o.Dst ((j : Nat) : Int)).2 ⟨j, o', rfl, q2, q3, q4, q5⟩]; rfl
      by_cases hok : defOk b i o
      · obtain ⟨q1, q2, q3⟩ := hok hD
        have e : (((mget s o.Dst).isSome || (decide (o.Dst < b.Params))) || (decide ((9999 : Int) < o.Dst))) = false := by
          have a1 : ¬ o.Dst < b.Params := by omega
          have a2 : ¬ 9999 < o.Dst := by omega
          have a3 : (mget s o.Dst).isSome = false := Bool.eq_false_iff.2 fun h => q3 (.inr (hsome.1 h))
          simp [a1, a2, a3]
        rw [if_neg (by rw [e]; decide)]
        refine block_L0 c b l (i + 1) _ h2 (fun v x => ?_) (fun j o' hj ho => ?_)
        · rw [mget_put]
          by_cases hv : v = o.Dst
          · rw [if_pos hv]
            subst hv
            constructor
            · intro h
              injection h with h
              exact ⟨i, o, h.symm, by omega, h1, hD, rfl⟩
            · rintro ⟨j, o', r1, r2, r3, r4, r5⟩
              rcases Nat.lt_or_ge j i with hj | hj
              · exact absurd (.inr ⟨j, o', hj, r3, r4, r5⟩) q3
              · obtain rfl : j = i := by omega
                rw [r1]
          · rw [if_neg hv, hs]
            constructor
            · rintro ⟨j, o', r1, r2, r3, r4, r5⟩
              exact ⟨j, o', r1, by omega, r3, r4, r5⟩
            · rintro ⟨j, o', r1, r2, r3, r4, r5⟩
              rcases Nat.lt_or_ge j i with hj | hj
              · exact ⟨j, o', r1, hj, r3, r4, r5⟩
              · obtain rfl : j = i := by omega
                rw [h1] at r3; cases r3
                exact absurd r5.symm hv
        · rcases Nat.lt_or_ge j i with hj' | hj'
          · exact hd j o' hj' ho
          · obtain rfl : j = i := by omega
            rw [h1] at ho; cases ho; exact hok
      · have e : (((mget s o.Dst).isSome || (decide (o.Dst < b.Params))) || (decide ((9999 : Int) < o.Dst))) = true := by
          by_cases a1 : o.Dst < b.Params
          · simp [a1]
          · by_cases a2 : 9999 < o.Dst
            · simp [a2]
            · cases a3 : (mget s o.Dst).isSome with
              | true => simp
              | false =>
                refine absurd (fun _ => ⟨by omega, by omega, fun hk => ?_⟩) hok
                rcases hk with hk | hk
                · omega
                · rw [hsome.2 hk] at a3; cases a3
        rw [if_pos e]
        exact .inr ⟨rfl, i, o, h1, hok⟩
    · rw [if_pos (by rw [f1]; exact fun h => hD (hdi.2 h))]
      refine block_L0 c b l (i + 1) _ h2 (fun v x => ?_) (fun j o' hj ho => ?_)
      · rw [hs]
        constructor
        · rintro ⟨j, o', r1, r2, r3, r4, r5⟩
          exact ⟨j, o', r1, by omega, r3, r4, r5⟩
        · rintro ⟨j, o', r1, r2, r3, r4, r5⟩
          rcases Nat.lt_or_ge j i with hj | hj
          · exact ⟨j, o', r1, hj, r3, r4, r5⟩
          · obtain rfl : j = i := by omega
            rw [h1] at r3; cases r3
            exact absurd r4 hD
      · rcases Nat.lt_or_ge j i with hj' | hj'
        · exact hd j o' hj' ho
        · obtain rfl : j = i := by omega
          rw [h1] at ho; cases ho; exact fun h => absurd h hD
theorem has_iff {b : GBlock List} {u : List (Int × Int)} (hu : MapOk b b.Ops.length u) (hp : 0 ≤ b.Params ∧ b.Params ≤ 999) (v : Int) (i : Nat) : m_ir_scope_has b.Params u v ((i : Nat) : Int) = true ↔ known b i v := by
  unfold m_ir_scope_has
  rw [wr_small (by omega) (by omega)]
  by_cases h : m_ir_within v (b.Params - 1) = true
  · rw [if_pos h]
    rw [within_iff] at h
    exact ⟨fun _ => .inl ⟨h.1, by omega⟩, fun _ => rfl⟩
  · rw [if_neg h]
    rw [within_iff] at h
    cases hm : mget u v with
    | none =>
      refine ⟨fun h => Bool.noConfusion h, fun hk => ?_⟩
      rcases hk with hk | ⟨j, o, q1, q2, q3, q4⟩
      · omega
      · rw [(hu v ((j : Nat) : Int)).2 ⟨j, o, rfl, (List.getElem?_eq_some_iff.1 q2).1, q2, q3, q4⟩] at hm; cases hm
    | some x =>
      obtain ⟨j, o, q1, q2, q3, q4, q5⟩ := (hu v x).1 hm
      show (if true = true then decide (x < ((i : Nat) : Int)) else false) = true ↔ _
      rw [if_pos rfl, decide_eq_true_eq]
      constructor
      · intro hx
        exact .inr ⟨j, o, by omega, q3, q4, q5⟩
      · rintro (hk | ⟨j', o', r1, r2, r3, r4⟩)
        · omega
        · have := (hu v ((j' : Nat) : Int)).2 ⟨j', o', rfl, (List.getElem?_eq_some_iff.1 r2).1, r2, r3, r4⟩
          rw [hm] at this
          injection this with this
          omega
theorem source_iff {c : GCode List} {b : GBlock List} {u : List (Int × Int)} (hu : MapOk b b.Ops.length u) (hp : 0 ≤ b.Params ∧ b.Params ≤ 999) (hc : 0 ≤ c.Params ∧ c.Params ≤ 4) (o : GOp) :
    m_ir_rightBind c b.Params u o ((b.Ops.length : Nat) : Int) = true ↔ 0 ≤ o.Var ∧ o.Var < 24 ∧ 0 ≤ o.Piece ∧ o.Piece < 4 ∧ m_r06_source c o.Src (m_r06_Values b) = true := by
  have hv := has_iff hu hp o.Src.Val b.Ops.length
  unfold m_ir_rightBind m_r06_source
  rw [has_dec, wr_small (n := c.Params - 1) (by omega) (by omega)]
  have hm := mem_vals b o.Src.Val
  have w1 := within_iff o.Var 23
  have w2 := within_iff o.Piece 3
  have w3 := within_iff o.Src.Val (c.Params - 1)
  by_cases a1 : m_ir_within o.Var 23 = true
  · rw [if_pos a1]
    rw [w1] at a1
    by_cases a2 : m_ir_within o.Piece 3 = true
    · rw [if_pos a2]
      rw [w2] at a2
      have key : ∀ (X Y : Bool), (X = true ↔ Y = true) → (X = true ↔ 0 ≤ o.Var ∧ o.Var < 24 ∧ 0 ≤ o.Piece ∧ o.Piece < 4 ∧ Y = true) := fun X Y h => by
        rw [h]
        exact ⟨fun q => ⟨by omega, by omega, by omega, by omega, q⟩, fun q => q.2.2.2.2⟩
      refine key _ _ ?_
      by_cases k0 : o.Src.Kind = 0
      · rw [if_pos k0, if_pos k0]
      · rw [if_neg k0, if_neg k0]
        by_cases k1 : o.Src.Kind = 1
        · rw [if_pos k1, if_pos k1]
        · rw [if_neg k1, if_neg k1]
          by_cases k2 : o.Src.Kind = 2
          · rw [if_pos k2, if_pos k2, hv, decide_eq_true_eq, hm]
          · rw [if_neg k2, if_neg k2]
            by_cases k3 : o.Src.Kind = 3
            · rw [if_pos k3, if_pos k3, w3]
              by_cases k4 : 0 ≤ o.Src.Val
              · rw [if_pos k4, decide_eq_true_eq]; omega
              · rw [if_neg k4]
                exact ⟨fun h => absurd h.1 k4, fun h => Bool.noConfusion h⟩
            · rw [if_neg k3, if_neg k3]
    · rw [if_neg a2]
      rw [w2] at a2
      exact ⟨fun h => Bool.noConfusion h, fun h => absurd ⟨h.2.2.1, by omega⟩ a2⟩
  · rw [if_neg a1]
    rw [w1] at a1
    exact ⟨fun h => Bool.noConfusion h, fun h => absurd ⟨h.1, by omega⟩ a1⟩
end Go.Proofs.Ytbpccmnalhdpmaa
