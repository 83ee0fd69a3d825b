/- The two CheckCode answer alike (plain Lean). First: the reference's words. -/
import Derived.Test.YtbpccmnalhdpmaaGp
set_option linter.unusedVariables false
set_option linter.unusedSimpArgs false
set_option maxRecDepth 4000
namespace Go.Proofs.Ytbpccmnalhdpmaa
open Go.RowKit Go.Fw

theorem has_L0 (l0 : List Int) (x : Int) : ∀ (l : List Int) (k : Nat), (m_r06_Has_L0 l0 x l k).el (fun _ => false) (fun o => o) = decide (x ∈ l)
  | [], k => by simp [m_r06_Has_L0, Lp.el]
  | a :: l, k => by
    rw [m_r06_Has_L0]
    by_cases h : x = a
    · rw [if_pos h]; simp [Lp.el, h]
    · rw [if_neg h, has_L0 l0 x l (k + 1)]; simp [h]
theorem has_dec (l : List Int) (x : Int) : m_r06_Has l x = decide (x ∈ l) := has_L0 l x l 0
theorem vals_L0 (b : GBlock List) : ∀ (n : Nat) (i : Int) (s : List Int), ∃ t, m_r06_Values_L0 b n i s = .go t ∧ ∀ x, x ∈ t ↔ x ∈ s ∨ (i ≤ x ∧ x < i + n)
  | 0, i, s => ⟨s, rfl, fun x => by constructor; exact .inl; intro h; rcases h with h | h; exact h; omega⟩
  | n + 1, i, s => by
    obtain ⟨t, h1, h2⟩ := vals_L0 b n (i + 1) (s ++ [i])
    refine ⟨t, by rw [m_r06_Values_L0]; exact h1, fun x => ?_⟩
    rw [h2, List.mem_append, List.mem_singleton]
    constructor
    · rintro ((h | h) | h)
      · exact .inl h
      · exact .inr (by omega)
      · exact .inr (by omega)
    · rintro (h | h)
      · exact .inl (.inl h)
      · by_cases hx : x = i
        · exact .inl (.inr hx)
        · exact .inr (by omega)
theorem ops_L0 (c : GCode List) (b : GBlock List) : ∀ (n : Nat) (i : Int) (s : List Int), ∃ t, m_r06_ops_L0 c b n i s = .go t ∧ ∀ x, x ∈ t ↔ x ∈ s ∨ (i ≤ x ∧ x < i + n)
  | 0, i, s => ⟨s, rfl, fun x => by constructor; exact .inl; intro h; rcases h with h | h; exact h; omega⟩
  | n + 1, i, s => by
    obtain ⟨t, h1, h2⟩ := ops_L0 c b n (i + 1) (s ++ [i])
    refine ⟨t, by rw [m_r06_ops_L0]; exact h1, fun x => ?_⟩
    rw [h2, List.mem_append, List.mem_singleton]
    constructor
    · rintro ((h | h) | h)
      · exact .inl h
      · exact .inr (by omega)
      · exact .inr (by omega)
    · rintro (h | h)
      · exact .inl (.inl h)
      · by_cases hx : x = i
        · exact .inl (.inr hx)
        · exact .inr (by omega)
/-- value x is there ahead of operation i -/
def known (b : GBlock List) (i : Nat) (x : Int) : Prop := (0 ≤ x ∧ x < b.Params) ∨ ∃ j o, j < i ∧ b.Ops[j]? = some o ∧ m_r06_Defines o.Kind = true ∧ o.Dst = x
theorem known_succ {b : GBlock List} {i : Nat} {o : GOp} (h : b.Ops[i]? = some o) (x : Int) : known b (i + 1) x ↔ known b i x ∨ (m_r06_Defines o.Kind = true ∧ o.Dst = x) := by
  constructor
  · rintro (h1 | ⟨j, o', h1, h2, h3, h4⟩)
    · exact .inl (.inl h1)
    · rcases Nat.lt_or_ge j i with hj | hj
      · exact .inl (.inr ⟨j, o', hj, h2, h3, h4⟩)
      · obtain rfl : j = i := by omega
        rw [h] at h2; cases h2
        exact .inr ⟨h3, h4⟩
  · rintro ((h1 | ⟨j, o', h1, h2, h3, h4⟩) | h1)
    · exact .inl h1
    · exact .inr ⟨j, o', by omega, h2, h3, h4⟩
    · exact .inr ⟨i, o, by omega, h, h1.1, h1.2⟩
theorem drop_get {α : Type} {l : List α} {i : Nat} {a : α} {r : List α} (h : l.drop i = a :: r) : l[i]? = some a ∧ l.drop (i + 1) = r := by
  have hi : i < l.length := by
    rcases Nat.lt_or_ge i l.length with h1 | h1
    · exact h1
    · rw [List.drop_of_length_le h1] at h; cases h
  rw [List.drop_eq_getElem_cons hi] at h
  injection h with h1 h2
  exact ⟨by rw [List.getElem?_eq_getElem hi, h1], h2⟩
theorem vals_L1 (b : GBlock List) (u : List Int) : ∀ (l : List GOp) (i k : Nat) (s : List Int), b.Ops.drop i = l → (∀ x, x ∈ s ↔ known b i x) → ∃ t, m_r06_Values_L1 b u l k s = .go t ∧ ∀ x, x ∈ t ↔ known b b.Ops.length x
  | [], i, k, s, hl, hs => by
    refine ⟨s, rfl, fun x => ?_⟩
    have hi : b.Ops.length ≤ i := by simpa using hl
    rw [hs]
    constructor
    · rintro (h | ⟨j, o, h1, h2, h3⟩)
      · exact .inl h
      · exact .inr ⟨j, o, (List.getElem?_eq_some_iff.1 h2).1, h2, h3⟩
    · rintro (h | ⟨j, o, h1, h2, h3⟩)
      · exact .inl h
      · exact .inr ⟨j, o, by omega, h2, h3⟩
  | o :: l, i, k, s, hl, hs => by
    obtain ⟨h1, h2⟩ := drop_get hl
    rw [m_r06_Values_L1]
    by_cases hd : m_r06_Defines o.Kind = true
    · rw [if_pos hd]
      refine vals_L1 b u l (i + 1) (k + 1) _ h2 fun x => ?_
      rw [List.mem_append, hs, List.mem_singleton, known_succ h1]
      constructor
      · rintro (h | h)
        · exact .inl h
        · exact .inr ⟨hd, h.symm⟩
      · rintro (h | h)
        · exact .inl h
        · exact .inr h.2.symm
    · rw [if_neg hd]
      refine vals_L1 b u l (i + 1) (k + 1) _ h2 fun x => ?_
      rw [hs, known_succ h1]
      constructor
      · exact .inl
      · rintro (h | h)
        · exact h
        · exact absurd h.1 hd
theorem known0 (b : GBlock List) (x : Int) : known b 0 x ↔ 0 ≤ x ∧ x < b.Params := by
  constructor
  · rintro (h | ⟨j, o, h1, _⟩)
    · exact h
    · omega
  · exact .inl
theorem mem_vals (b : GBlock List) (x : Int) : x ∈ m_r06_Values b ↔ known b b.Ops.length x := by
  unfold m_r06_Values
  obtain ⟨t, h1, h2⟩ := vals_L0 b (b.Params - 0).toNat 0 []
  obtain ⟨t2, h3, h4⟩ := vals_L1 b t b.Ops 0 0 t rfl (fun x => by rw [h2, known0]; simp; omega)
  rw [h1, Lp.el_go, h3, Lp.el_go]
  exact h4 x

/-- what the reference asks of an operation -/
def restOk (c : GCode List) (b : GBlock List) (o : GOp) : Prop :=
  ((o.Kind = 15 ∨ o.Kind = 16 ∨ o.Kind = 17) → 0 ≤ o.N ∧ o.N < (c.Objects.length : Nat)) ∧
  ((o.Kind = 19 ∨ o.Kind = 20) → 0 ≤ o.N ∧ o.N ≤ 9999 ∧ 0 ≤ o.Ctx ∧ o.Ctx < (c.Contexts.length : Nat)) ∧
  (o.Kind = 21 → 0 ≤ o.Ctx ∧ o.Ctx < (c.Contexts.length : Nat) ∧ 0 ≤ o.Var ∧ o.Var < 24 ∧ 0 ≤ o.Piece ∧ o.Piece < 4 ∧ m_r06_source c o.Src (m_r06_Values b) = true)
def headOk (b : GBlock List) (j : Nat) (o : GOp) : Prop := 1 ≤ o.Kind ∧ o.Kind ≤ 21 ∧ m_r06_plain o = true ∧ (m_r06_UsesA o.Kind = true → known b j o.A) ∧ (m_r06_UsesB o.Kind = true → known b j o.B)
def defOk (b : GBlock List) (j : Nat) (o : GOp) : Prop := m_r06_Defines o.Kind = true → b.Params ≤ o.Dst ∧ o.Dst ≤ 9999 ∧ ¬ known b j o.Dst
def opOk (c : GCode List) (b : GBlock List) (j : Nat) (o : GOp) : Prop := headOk b j o ∧ defOk b j o ∧ restOk c b o
def restT {α : Type} (c : GCode List) (b : GBlock List) (o : GOp) (G F : α) : α :=
  if ((decide (o.Kind = (15 : Int))) || ((decide (o.Kind = (16 : Int))) || (decide (o.Kind = (17 : Int))))) = true then
    if o.N < (0 : Int) then F else if ((c.Objects.length : Nat) : Int) ≤ o.N then F else G
  else
    if ((decide (o.Kind = (19 : Int))) || (decide (o.Kind = (20 : Int)))) = true then
      if ((((decide (o.N < (0 : Int))) || (decide ((9999 : Int) < o.N))) || (decide (o.Ctx < (0 : Int)))) || (decide (((c.Contexts.length : Nat) : Int) ≤ o.Ctx))) = true then F else G
    else
      if o.Kind = (21 : Int) then
        if (((((((decide (o.Ctx < (0 : Int))) || (decide (((c.Contexts.length : Nat) : Int) ≤ o.Ctx))) || (decide (o.Var < (0 : Int)))) || (decide ((24 : Int) ≤ o.Var))) || (decide (o.Piece < (0 : Int)))) || (decide ((4 : Int) ≤ o.Piece))) || (!(m_r06_source c o.Src (m_r06_Values b)))) = true then F else G
      else G
theorem rest_eq {α : Type} (c : GCode List) (b : GBlock List) (o : GOp) (G F : α) : (restOk c b o ∧ restT c b o G F = G) ∨ (¬ restOk c b o ∧ restT c b o G F = F) := by
  unfold restT restOk
  by_cases k1 : o.Kind = 15 ∨ o.Kind = 16 ∨ o.Kind = 17
  · have e1 : ((decide (o.Kind = (15 : Int))) || ((decide (o.Kind = (16 : Int))) || (decide (o.Kind = (17 : Int))))) = true := by simpa using k1
    rw [if_pos e1]
    by_cases a1 : o.N < 0
    · rw [if_pos a1]; exact .inr ⟨fun h => by have := (h.1 k1).1; omega, rfl⟩
    · rw [if_neg a1]
      by_cases a2 : ((c.Objects.length : Nat) : Int) ≤ o.N
      · rw [if_pos a2]; exact .inr ⟨fun h => by have := (h.1 k1).2; omega, rfl⟩
      · rw [if_neg a2]; exact .inl ⟨⟨fun _ => ⟨by omega, by omega⟩, fun h => by omega, fun h => by omega⟩, rfl⟩
  · have e1 : ¬ ((decide (o.Kind = (15 : Int))) || ((decide (o.Kind = (16 : Int))) || (decide (o.Kind = (17 : Int))))) = true := by simpa using k1
    rw [if_neg e1]
    by_cases k2 : o.Kind = 19 ∨ o.Kind = 20
    · have e2 : ((decide (o.Kind = (19 : Int))) || (decide (o.Kind = (20 : Int)))) = true := by simpa using k2
      rw [if_pos e2]
      by_cases a : 0 ≤ o.N ∧ o.N ≤ 9999 ∧ 0 ≤ o.Ctx ∧ o.Ctx < (c.Contexts.length : Nat)
      · have e3 : ¬ ((((decide (o.N < (0 : Int))) || (decide ((9999 : Int) < o.N))) || (decide (o.Ctx < (0 : Int)))) || (decide (((c.Contexts.length : Nat) : Int) ≤ o.Ctx))) = true := by simp; omega
        rw [if_neg e3]; exact .inl ⟨⟨fun h => absurd h k1, fun _ => a, fun h => by omega⟩, rfl⟩
      · have e3 : ((((decide (o.N < (0 : Int))) || (decide ((9999 : Int) < o.N))) || (decide (o.Ctx < (0 : Int)))) || (decide (((c.Contexts.length : Nat) : Int) ≤ o.Ctx))) = true := by simp; omega
        rw [if_pos e3]; exact .inr ⟨fun h => a (h.2.1 k2), rfl⟩
    · have e2 : ¬ ((decide (o.Kind = (19 : Int))) || (decide (o.Kind = (20 : Int)))) = true := by simpa using k2
      rw [if_neg e2]
      by_cases k3 : o.Kind = 21
      · rw [if_pos k3]
        by_cases a : 0 ≤ o.Ctx ∧ o.Ctx < (c.Contexts.length : Nat) ∧ 0 ≤ o.Var ∧ o.Var < 24 ∧ 0 ≤ o.Piece ∧ o.Piece < 4
        · have e3 : (((((((decide (o.Ctx < (0 : Int))) || (decide (((c.Contexts.length : Nat) : Int) ≤ o.Ctx))) || (decide (o.Var < (0 : Int)))) || (decide ((24 : Int) ≤ o.Var))) || (decide (o.Piece < (0 : Int)))) || (decide ((4 : Int) ≤ o.Piece))) || (!(m_r06_source c o.Src (m_r06_Values b)))) = !(m_r06_source c o.Src (m_r06_Values b)) := by
            have z : ((((((decide (o.Ctx < (0 : Int))) || (decide (((c.Contexts.length : Nat) : Int) ≤ o.Ctx))) || (decide (o.Var < (0 : Int)))) || (decide ((24 : Int) ≤ o.Var))) || (decide (o.Piece < (0 : Int)))) || (decide ((4 : Int) ≤ o.Piece))) = false := by simp; omega
            rw [z, Bool.false_or]
          rw [e3]
          cases hs : m_r06_source c o.Src (m_r06_Values b) with
          | true => exact .inl ⟨⟨fun h => absurd h k1, fun h => absurd h k2, fun _ => ⟨a.1, a.2.1, a.2.2.1, a.2.2.2.1, a.2.2.2.2.1, a.2.2.2.2.2, rfl⟩⟩, rfl⟩
          | false => exact .inr ⟨fun h => Bool.noConfusion (h.2.2 k3).2.2.2.2.2.2, rfl⟩
        · have e3 : (((((((decide (o.Ctx < (0 : Int))) || (decide (((c.Contexts.length : Nat) : Int) ≤ o.Ctx))) || (decide (o.Var < (0 : Int)))) || (decide ((24 : Int) ≤ o.Var))) || (decide (o.Piece < (0 : Int)))) || (decide ((4 : Int) ≤ o.Piece))) || (!(m_r06_source c o.Src (m_r06_Values b)))) = true := by
            have z : ((((((decide (o.Ctx < (0 : Int))) || (decide (((c.Contexts.length : Nat) : Int) ≤ o.Ctx))) || (decide (o.Var < (0 : Int)))) || (decide ((24 : Int) ≤ o.Var))) || (decide (o.Piece < (0 : Int)))) || (decide ((4 : Int) ≤ o.Piece))) = true := by simp; omega
            rw [z, Bool.true_or]
          rw [if_pos e3]; exact .inr ⟨fun h => by have := h.2.2 k3; exact a ⟨this.1, this.2.1, this.2.2.1, this.2.2.2.1, this.2.2.2.2.1, this.2.2.2.2.2.1⟩, rfl⟩
      · rw [if_neg k3]; exact .inl ⟨⟨fun h => absurd h k1, fun h => absurd h k2, fun h => absurd h k3⟩, rfl⟩
theorem ops_L1 (c : GCode List) (b : GBlock List) (u : List Int) : ∀ (l : List GOp) (i k : Nat) (s : List Int), b.Ops.drop i = l → (∀ x, x ∈ s ↔ known b i x) →
    ((∃ t, m_r06_ops_L1 c b u l k s = .go t) ∧ ∀ j o, i ≤ j → b.Ops[j]? = some o → opOk c b j o) ∨ (m_r06_ops_L1 c b u l k s = .out false ∧ ∃ j o, i ≤ j ∧ b.Ops[j]? = some o ∧ ¬ opOk c b j o)
  | [], i, k, s, hl, hs => by
    have hi : b.Ops.length ≤ i := by simpa using hl
    exact .inl ⟨⟨s, rfl⟩, fun j o hj ho => by have := (List.getElem?_eq_some_iff.1 ho).1; omega⟩
  | o :: l, i, k, s, hl, hs => by
    obtain ⟨h1, h2⟩ := drop_get hl
    have hA : ∀ x, m_r06_Has s x = decide (x ∈ s) := has_dec s
    have go : ∀ s', (∀ x, x ∈ s' ↔ known b (i + 1) x) → opOk c b i o → ((∃ t, m_r06_ops_L1 c b u l (k + 1) s' = .go t) ∧ ∀ j o, i ≤ j → b.Ops[j]? = some o → opOk c b j o) ∨ (m_r06_ops_L1 c b u l (k + 1) s' = .out false ∧ ∃ j o, i ≤ j ∧ b.Ops[j]? = some o ∧ ¬ opOk c b j o) := by
      intro s' hs' hok
      rcases ops_L1 c b u l (i + 1) (k + 1) s' h2 hs' with ⟨h3, h4⟩ | ⟨h3, j, o', h4, h5, h6⟩
      · refine .inl ⟨h3, fun j o' hj ho => ?_⟩
        rcases Nat.lt_or_ge i j with hij | hij
        · exact h4 j o' hij ho
        · obtain rfl : j = i := by omega
          rw [h1] at ho; cases ho; exact hok
      · exact .inr ⟨h3, j, o', by omega, h5, h6⟩
    have no : ¬ opOk c b i o → ((∃ t, (Lp.out false : Lp (List Int) Bool) = .go t) ∧ ∀ j o, i ≤ j → b.Ops[j]? = some o → opOk c b j o) ∨ ((Lp.out false : Lp (List Int) Bool) = .out false ∧ ∃ j o, i ≤ j ∧ b.Ops[j]? = some o ∧ ¬ opOk c b j o) :=
      fun hn => .inr ⟨rfl, i, o, Nat.le_refl _, h1, hn⟩
    rw [m_r06_ops_L1]
    by_cases hh : headOk b i o
    · have e : (((((decide (o.Kind < (1 : Int))) || (decide ((21 : Int) < o.Kind))) || (!(m_r06_plain o))) || ((m_r06_UsesA o.Kind) && (!(m_r06_Has s o.A)))) || ((m_r06_UsesB o.Kind) && (!(m_r06_Has s o.B)))) = false := by
        obtain ⟨q1, q2, q3, q4, q5⟩ := hh
        rw [hA, hA]
        have a1 : ¬ o.Kind < 1 := by omega
        have a2 : ¬ 21 < o.Kind := by omega
        simp only [a1, a2, q3, decide_false, Bool.not_true, Bool.or_false, Bool.false_or]
        cases ha : m_r06_UsesA o.Kind <;> cases hb : m_r06_UsesB o.Kind <;> simp
        · exact (hs _).2 (q5 hb)
        · exact (hs _).2 (q4 ha)
        · exact ⟨(hs _).2 (q4 ha), (hs _).2 (q5 hb)⟩
      rw [if_neg (by rw [e]; decide)]
      by_cases hd : m_r06_Defines o.Kind = true
      · rw [if_pos hd]
        by_cases hD : defOk b i o
        · have e2 : (((decide (o.Dst < b.Params)) || (decide ((9999 : Int) < o.Dst))) || (m_r06_Has s o.Dst)) = false := by
            obtain ⟨q1, q2, q3⟩ := hD hd
            rw [hA]
            have a1 : ¬ o.Dst < b.Params := by omega
            have a2 : ¬ 9999 < o.Dst := by omega
            have a3 : ¬ o.Dst ∈ s := fun h => q3 ((hs _).1 h)
            simp [a1, a2, a3]
          rw [if_neg (by rw [e2]; decide)]
          have hs' : ∀ x, x ∈ s ++ [o.Dst] ↔ known b (i + 1) x := fun x => by
            rw [List.mem_append, hs, List.mem_singleton, known_succ h1]
            constructor
            · rintro (h | h)
              · exact .inl h
              · exact .inr ⟨hd, h.symm⟩
            · rintro (h | h)
              · exact .inl h
              · exact .inr h.2.symm
          change (∃ t, restT c b o (m_r06_ops_L1 c b u l (k + 1) (s ++ [o.Dst])) (.out false) = .go t) ∧ _ ∨ restT c b o (m_r06_ops_L1 c b u l (k + 1) (s ++ [o.Dst])) (.out false) = .out false ∧ _
          rcases rest_eq c b o (m_r06_ops_L1 c b u l (k + 1) (s ++ [o.Dst])) (.out false) with ⟨r1, r2⟩ | ⟨r1, r2⟩
          · rw [r2]; exact go _ hs' ⟨hh, hD, r1⟩
          · rw [r2]; exact no fun h => r1 h.2.2
        · have e2 : (((decide (o.Dst < b.Params)) || (decide ((9999 : Int) < o.Dst))) || (m_r06_Has s o.Dst)) = true := by
            rw [hA]
            by_cases a1 : o.Dst < b.Params
            · simp [a1]
            · by_cases a2 : 9999 < o.Dst
              · simp [a2]
              · by_cases a3 : o.Dst ∈ s
                · simp [a3]
                · exact absurd (fun _ => ⟨by omega, by omega, fun h => a3 ((hs _).2 h)⟩) hD
          rw [if_pos e2]; exact no fun h => hD h.2.1
      · rw [if_neg hd]
        have hs' : ∀ x, x ∈ s ↔ known b (i + 1) x := fun x => by
          rw [hs, known_succ h1]
          constructor
          · exact .inl
          · rintro (h | h)
            · exact h
            · exact absurd h.1 hd
        change (∃ t, restT c b o (m_r06_ops_L1 c b u l (k + 1) s) (.out false) = .go t) ∧ _ ∨ restT c b o (m_r06_ops_L1 c b u l (k + 1) s) (.out false) = .out false ∧ _
        rcases rest_eq c b o (m_r06_ops_L1 c b u l (k + 1) s) (.out false) with ⟨r1, r2⟩ | ⟨r1, r2⟩
        · rw [r2]; exact go _ hs' ⟨hh, fun h => absurd h hd, r1⟩
        · rw [r2]; exact no fun h => r1 h.2.2
    · have e : (((((decide (o.Kind < (1 : Int))) || (decide ((21 : Int) < o.Kind))) || (!(m_r06_plain o))) || ((m_r06_UsesA o.Kind) && (!(m_r06_Has s o.A)))) || ((m_r06_UsesB o.Kind) && (!(m_r06_Has s o.B)))) = true := by
        rw [hA, hA]
        by_cases a1 : o.Kind < 1
        · simp [a1]
        · by_cases a2 : 21 < o.Kind
          · simp [a2]
          · cases a3 : m_r06_plain o
            · simp
            · by_cases a4 : m_r06_UsesA o.Kind = true ∧ ¬ o.A ∈ s
              · simp [a4.1, a4.2]
              · by_cases a5 : m_r06_UsesB o.Kind = true ∧ ¬ o.B ∈ s
                · simp [a5.1, a5.2]
                · exact absurd ⟨by omega, by omega, a3, fun h => (hs _).1 (Decidable.byContradiction fun q => a4 ⟨h, q⟩), fun h => (hs _).1 (Decidable.byContradiction fun q => a5 ⟨h, q⟩)⟩ hh
      rw [if_pos e]; exact no fun h => hh h.1
theorem ops_iff (c : GCode List) (b : GBlock List) : m_r06_ops c b = true ↔ ∀ j o, b.Ops[j]? = some o → opOk c b j o := by
  unfold m_r06_ops
  obtain ⟨t, h1, h2⟩ := ops_L0 c b (b.Params - 0).toNat 0 []
  rw [h1, Lp.el_go]
  rcases ops_L1 c b t b.Ops 0 0 t rfl (fun x => by rw [h2, known0]; simp; omega) with ⟨⟨t2, h3⟩, h4⟩ | ⟨h3, j, o, _, h5, h6⟩
  · rw [h3, Lp.el_go]
    exact ⟨fun _ j o ho => h4 j o (Nat.zero_le _) ho, fun _ => rfl⟩
  · rw [h3, Lp.el_out]
    exact ⟨fun h => Bool.noConfusion h, fun h => absurd (h j o h5) h6⟩
end Go.Proofs.Ytbpccmnalhdpmaa
