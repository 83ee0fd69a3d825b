/- IrChecks: Gr+Gs+Gu+Gv+Gw+Gx+Gy. -/
import Derived.Test.YtbpccmnalhdpmaaJ11
set_option linter.unusedVariables false
set_option linter.unusedSimpArgs false
set_option maxRecDepth 4000
namespace Go.Proofs.Ytbpccmnalhdpmaa
open Go.RowKit Go.Fw
theorem has_L0 (l0 : List Int) (x : Int) : ∀ (l : List Int) (k : Nat), (m_r06_Has_L0 l0 x l k).el (fun _ => false) (fun o => o) = decide (x ∈ l)
 | [], k => by simp [m_r06_Has_L0, Lp.el]
 | a :: l, k => by
  rw [m_r06_Has_L0]
  by_cases h : x = a
  · rw [if_pos h]; simp [Lp.el, h]
  · rw [if_neg h, has_L0 l0 x l (k + 1)]; simp [h]
theorem has_dec (l : List Int) (x : Int) : m_r06_Has l x = decide (x ∈ l) := has_L0 l x l 0
theorem vals_L0 (b : GBlock List) : ∀ (n : Nat) (i : Int) (s : List Int), ∃ t, m_r06_Values_L0 b n i s = .go t ∧ ∀ x, x ∈ t ↔ x ∈ s ∨ (i ≤ x ∧ x < i + n)
 | 0, i, s => ⟨s, rfl, fun x => by constructor; exact .inl; intro h; rcases h with h | h; exact h; omega⟩
 | n + 1, i, s => by
  obtain ⟨t, h1, h2⟩ := vals_L0 b n (i + 1) (s ++ [i])
  refine ⟨t, by rw [m_r06_Values_L0]; exact h1, fun x => ?_⟩
  rw [h2, List.mem_append, List.mem_singleton]
  constructor
  · rintro ((h | h) | h)
    · exact .inl h
    · exact .inr (by omega)
    · exact .inr (by omega)
  · rintro (h | h)
    · exact .inl (.inl h)
    · by_cases hx : x = i
      · exact .inl (.inr hx)
      · exact .inr (by omega)
theorem ops_L0 (c : GCode List) (b : GBlock List) : ∀ (n : Nat) (i : Int) (s : List Int), ∃ t, m_r06_ops_L0 c b n i s = .go t ∧ ∀ x, x ∈ t ↔ x ∈ s ∨ (i ≤ x ∧ x < i + n)
 | 0, i, s => ⟨s, rfl, fun x => by constructor; exact .inl; intro h; rcases h with h | h; exact h; omega⟩
 | n + 1, i, s => by
  obtain ⟨t, h1, h2⟩ := ops_L0 c b n (i + 1) (s ++ [i])
  refine ⟨t, by rw [m_r06_ops_L0]; exact h1, fun x => ?_⟩
  rw [h2, List.mem_append, List.mem_singleton]
  constructor
  · rintro ((h | h) | h)
    · exact .inl h
    · exact .inr (by omega)
    · exact .inr (by omega)
  · rintro (h | h)
    · exact .inl (.inl h)
    · by_cases hx : x = i
      · exact .inl (.inr hx)
      · exact .inr (by omega)
/-- value x is there ahead of operation i -/
def known (b : GBlock List) (i : Nat) (x : Int) : Prop := (0 ≤ x ∧ x < b.Params) ∨ ∃ j o, j < i ∧ b.Ops[j]? = some o ∧ m_r06_Defines o.Kind = true ∧ o.Dst = x
theorem known_succ {b : GBlock List} {i : Nat} {o : GOp} (h : b.Ops[i]? = some o) (x : Int) : known b (i + 1) x ↔ known b i x ∨ (m_r06_Defines o.Kind = true ∧ o.Dst = x) := by
 constructor
 · rintro (h1 | ⟨j, o', h1, h2, h3, h4⟩)
   · exact .inl (.inl h1)
   · rcases Nat.lt_or_ge j i with hj | hj
     · exact .inl (.inr ⟨j, o', hj, h2, h3, h4⟩)
     · obtain rfl : j = i := by omega
       rw [h] at h2; cases h2
       exact .inr ⟨h3, h4⟩
 · rintro ((h1 | ⟨j, o', h1, h2, h3, h4⟩) | h1)
   · exact .inl h1
   · exact .inr ⟨j, o', by omega, h2, h3, h4⟩
   · exact .inr ⟨i, o, by omega, h, h1.1, h1.2⟩
theorem drop_get {α : Type} {l : List α} {i : Nat} {a : α} {r : List α} (h : l.drop i = a :: r) : l[i]? = some a ∧ l.drop (i + 1) = r := by
 have hi : i < l.length := by
  rcases Nat.lt_or_ge i l.length with h1 | h1
  · exact h1
  · rw [List.drop_of_length_le h1] at h; cases h
 rw [List.drop_eq_getElem_cons hi] at h
 injection h with h1 h2
 exact ⟨by rw [List.getElem?_eq_getElem hi, h1], h2⟩
theorem vals_L1 (b : GBlock List) (u : List Int) : ∀ (l : List GOp) (i k : Nat) (s : List Int), b.Ops.drop i = l → (∀ x, x ∈ s ↔ known b i x) → ∃ t, m_r06_Values_L1 b u l k s = .go t ∧ ∀ x, x ∈ t ↔ known b b.Ops.length x
 | [], i, k, s, hl, hs => by
  refine ⟨s, rfl, fun x => ?_⟩
  have hi : b.Ops.length ≤ i := by simpa using hl
  rw [hs]
  constructor
  · rintro (h | ⟨j, o, h1, h2, h3⟩)
    · exact .inl h
    · exact .inr ⟨j, o, (List.getElem?_eq_some_iff.1 h2).1, h2, h3⟩
  · rintro (h | ⟨j, o, h1, h2, h3⟩)
    · exact .inl h
    · exact .inr ⟨j, o, by omega, h2, h3⟩
 | o :: l, i, k, s, hl, hs => by
  obtain ⟨h1, h2⟩ := drop_get hl
  rw [m_r06_Values_L1]
  by_cases hd : m_r06_Defines o.Kind = true
  · rw [if_pos hd]
    refine vals_L1 b u l (i + 1) (k + 1) _ h2 fun x => ?_
    rw [List.mem_append, hs, List.mem_singleton, known_succ h1]
    constructor
    · rintro (h | h)
      · exact .inl h
      · exact .inr ⟨hd, h.symm⟩
    · rintro (h | h)
      · exact .inl h
      · exact .inr h.2.symm
  · rw [if_neg hd]
    refine vals_L1 b u l (i + 1) (k + 1) _ h2 fun x => ?_
    rw [hs, known_succ h1]
    constructor
    · exact .inl
    · rintro (h | h)
      · exact h
      · exact absurd h.1 hd
theorem known0 (b : GBlock List) (x : Int) : known b 0 x ↔ 0 ≤ x ∧ x < b.Params := by
 constructor
 · rintro (h | ⟨j, o, h1, _⟩)
   · exact h
   · omega
 · exact .inl
theorem mem_vals (b : GBlock List) (x : Int) : x ∈ m_r06_Values b ↔ known b b.Ops.length x := by
 unfold m_r06_Values
 obtain ⟨t, h1, h2⟩ := vals_L0 b (b.Params - 0).toNat 0 []
 obtain ⟨t2, h3, h4⟩ := vals_L1 b t b.Ops 0 0 t rfl (fun x => by rw [h2, known0]; simp; omega)
 rw [h1, Lp.el_go, h3, Lp.el_go]
 exact h4 x
/-- what the reference asks of an operation -/
def restOk (c : GCode List) (b : GBlock List) (o : GOp) : Prop :=
 ((o.Kind = 15 ∨ o.Kind = 16 ∨ o.Kind = 17) → 0 ≤ o.N ∧ o.N < (c.Objects.length : Nat)) ∧
 ((o.Kind = 19 ∨ o.Kind = 20) → 0 ≤ o.N ∧ o.N ≤ 9999 ∧ 0 ≤ o.Ctx ∧ o.Ctx < (c.Contexts.length : Nat)) ∧
 (o.Kind = 21 → 0 ≤ o.Ctx ∧ o.Ctx < (c.Contexts.length : Nat) ∧ 0 ≤ o.Var ∧ o.Var < 24 ∧ 0 ≤ o.Piece ∧ o.Piece < 4 ∧ m_r06_source c o.Src (m_r06_Values b) = true)
def headOk (b : GBlock List) (j : Nat) (o : GOp) : Prop := 1 ≤ o.Kind ∧ o.Kind ≤ 21 ∧ m_r06_plain o = true ∧ (m_r06_UsesA o.Kind = true → known b j o.A) ∧ (m_r06_UsesB o.Kind = true → known b j o.B)
def defOk (b : GBlock List) (j : Nat) (o : GOp) : Prop := m_r06_Defines o.Kind = true → b.Params ≤ o.Dst ∧ o.Dst ≤ 9999 ∧ ¬ known b j o.Dst
def opOk (c : GCode List) (b : GBlock List) (j : Nat) (o : GOp) : Prop := headOk b j o ∧ defOk b j o ∧ restOk c b o
def restT {α : Type} (c : GCode List) (b : GBlock List) (o : GOp) (G F : α) : α :=
 if ((decide (o.Kind = (15 : Int))) || ((decide (o.Kind = (16 : Int))) || (decide (o.Kind = (17 : Int))))) = true then
  if o.N < (0 : Int) then F else if ((c.Objects.length : Nat) : Int) ≤ o.N then F else G
 else
  if ((decide (o.Kind = (19 : Int))) || (decide (o.Kind = (20 : Int)))) = true then
   if ((((decide (o.N < (0 : Int))) || (decide ((9999 : Int) < o.N))) || (decide (o.Ctx < (0 : Int)))) || (decide (((c.Contexts.length : Nat) : Int) ≤ o.Ctx))) = true then F else G
  else
   if o.Kind = (21 : Int) then
    if (((((((decide (o.Ctx < (0 : Int))) || (decide (((c.Contexts.length : Nat) : Int) ≤ o.Ctx))) || (decide (o.Var < (0 : Int)))) || (decide ((24 : Int) ≤ o.Var))) || (decide (o.Piece < (0 : Int)))) || (decide ((4 : Int) ≤ o.Piece))) || (!(m_r06_source c o.Src (m_r06_Values b)))) = true then F else G
   else G
theorem rest_eq {α : Type} (c : GCode List) (b : GBlock List) (o : GOp) (G F : α) : (restOk c b o ∧ restT c b o G F = G) ∨ (¬ restOk c b o ∧ restT c b o G F = F) := by
 unfold restT restOk
 by_cases k1 : o.Kind = 15 ∨ o.Kind = 16 ∨ o.Kind = 17
 · have e1 : ((decide (o.Kind = (15 : Int))) || ((decide (o.Kind = (16 : Int))) || (decide (o.Kind = (17 : Int))))) = true := by simpa using k1
   rw [if_pos e1]
   by_cases a1 : o.N < 0
   · rw [if_pos a1]; exact .inr ⟨fun h => by have := (h.1 k1).1; omega, rfl⟩
   · rw [if_neg a1]
     by_cases a2 : ((c.Objects.length : Nat) : Int) ≤ o.N
     · rw [if_pos a2]; exact .inr ⟨fun h => by have := (h.1 k1).2; omega, rfl⟩
     · rw [if_neg a2]; exact .inl ⟨⟨fun _ => ⟨by omega, by omega⟩, fun h => by omega, fun h => by omega⟩, rfl⟩
 · have e1 : ¬ ((decide (o.Kind = (15 : Int))) || ((decide (o.Kind = (16 : Int))) || (decide (o.Kind = (17 : Int))))) = true := by simpa using k1
   rw [if_neg e1]
   by_cases k2 : o.Kind = 19 ∨ o.Kind = 20
   · have e2 : ((decide (o.Kind = (19 : Int))) || (decide (o.Kind = (20 : Int)))) = true := by simpa using k2
     rw [if_pos e2]
     by_cases a : 0 ≤ o.N ∧ o.N ≤ 9999 ∧ 0 ≤ o.Ctx ∧ o.Ctx < (c.Contexts.length : Nat)
     · have e3 : ¬ ((((decide (o.N < (0 : Int))) || (decide ((9999 : Int) < o.N))) || (decide (o.Ctx < (0 : Int)))) || (decide (((c.Contexts.length : Nat) : Int) ≤ o.Ctx))) = true := by simp; omega
       rw [if_neg e3]; exact .inl ⟨⟨fun h => absurd h k1, fun _ => a, fun h => by omega⟩, rfl⟩
     · have e3 : ((((decide (o.N < (0 : Int))) || (decide ((9999 : Int) < o.N))) || (decide (o.Ctx < (0 : Int)))) || (decide (((c.Contexts.length : Nat) : Int) ≤ o.Ctx))) = true := by simp; omega
       rw [if_pos e3]; exact .inr ⟨fun h => a (h.2.1 k2), rfl⟩
   · have e2 : ¬ ((decide (o.Kind = (19 : Int))) || (decide (o.Kind = (20 : Int)))) = true := by simpa using k2
     rw [if_neg e2]
     by_cases k3 : o.Kind = 21
     · rw [if_pos k3]
       by_cases a : 0 ≤ o.Ctx ∧ o.Ctx < (c.Contexts.length : Nat) ∧ 0 ≤ o.Var ∧ o.Var < 24 ∧ 0 ≤ o.Piece ∧ o.Piece < 4
       · have e3 : (((((((decide (o.Ctx < (0 : Int))) || (decide (((c.Contexts.length : Nat) : Int) ≤ o.Ctx))) || (decide (o.Var < (0 : Int)))) || (decide ((24 : Int) ≤ o.Var))) || (decide (o.Piece < (0 : Int)))) || (decide ((4 : Int) ≤ o.Piece))) || (!(m_r06_source c o.Src (m_r06_Values b)))) = !(m_r06_source c o.Src (m_r06_Values b)) := by
          have z : ((((((decide (o.Ctx < (0 : Int))) || (decide (((c.Contexts.length : Nat) : Int) ≤ o.Ctx))) || (decide (o.Var < (0 : Int)))) || (decide ((24 : Int) ≤ o.Var))) || (decide (o.Piece < (0 : Int)))) || (decide ((4 : Int) ≤ o.Piece))) = false := by simp; omega
          rw [z, Bool.false_or]
         rw [e3]
         cases hs : m_r06_source c o.Src (m_r06_Values b) with
         | true => exact .inl ⟨⟨fun h => absurd h k1, fun h => absurd h k2, fun _ => ⟨a.1, a.2.1, a.2.2.1, a.2.2.2.1, a.2.2.2.2.1, a.2.2.2.2.2, rfl⟩⟩, rfl⟩
         | false => exact .inr ⟨fun h => Bool.noConfusion (h.2.2 k3).2.2.2.2.2.2, rfl⟩
       · have e3 : (((((((decide (o.Ctx < (0 : Int))) || (decide (((c.Contexts.length : Nat) : Int) ≤ o.Ctx))) || (decide (o.Var < (0 : Int)))) || (decide ((24 : Int) ≤ o.Var))) || (decide (o.Piece < (0 : Int)))) || (decide ((4 : Int) ≤ o.Piece))) || (!(m_r06_source c o.Src (m_r06_Values b)))) = true := by
          have z : ((((((decide (o.Ctx < (0 : Int))) || (decide (((c.Contexts.length : Nat) : Int) ≤ o.Ctx))) || (decide (o.Var < (0 : Int)))) || (decide ((24 : Int) ≤ o.Var))) || (decide (o.Piece < (0 : Int)))) || (decide ((4 : Int) ≤ o.Piece))) = true := by simp; omega
          rw [z, Bool.true_or]
         rw [if_pos e3]; exact .inr ⟨fun h => by have := h.2.2 k3; exact a ⟨this.1, this.2.1, this.2.2.1, this.2.2.2.1, this.2.2.2.2.1, this.2.2.2.2.2.1⟩, rfl⟩
     · rw [if_neg k3]; exact .inl ⟨⟨fun h => absurd h k1, fun h => absurd h k2, fun h => absurd h k3⟩, rfl⟩
theorem ops_L1 (c : GCode List) (b : GBlock List) (u : List Int) : ∀ (l : List GOp) (i k : Nat) (s : List Int), b.Ops.drop i = l → (∀ x, x ∈ s ↔ known b i x) →
  ((∃ t, m_r06_ops_L1 c b u l k s = .go t) ∧ ∀ j o, i ≤ j → b.Ops[j]? = some o → opOk c b j o) ∨ (m_r06_ops_L1 c b u l k s = .out false ∧ ∃ j o, i ≤ j ∧ b.Ops[j]? = some o ∧ ¬ opOk c b j o)
 | [], i, k, s, hl, hs => by
  have hi : b.Ops.length ≤ i := by simpa using hl
  exact .inl ⟨⟨s, rfl⟩, fun j o hj ho => by have := (List.getElem?_eq_some_iff.1 ho).1; omega⟩
 | o :: l, i, k, s, hl, hs => by
  obtain ⟨h1, h2⟩ := drop_get hl
  have hA : ∀ x, m_r06_Has s x = decide (x ∈ s) := has_dec s
  have go : ∀ s', (∀ x, x ∈ s' ↔ known b (i + 1) x) → opOk c b i o → ((∃ t, m_r06_ops_L1 c b u l (k + 1) s' = .go t) ∧ ∀ j o, i ≤ j → b.Ops[j]? = some o → opOk c b j o) ∨ (m_r06_ops_L1 c b u l (k + 1) s' = .out false ∧ ∃ j o, i ≤ j ∧ b.Ops[j]? = some o ∧ ¬ opOk c b j o) := by
    intro s' hs' hok
    rcases ops_L1 c b u l (i + 1) (k + 1) s' h2 hs' with ⟨h3, h4⟩ | ⟨h3, j, o', h4, h5, h6⟩
    · refine .inl ⟨h3, fun j o' hj ho => ?_⟩
      rcases Nat.lt_or_ge i j with hij | hij
      · exact h4 j o' hij ho
      · obtain rfl : j = i := by omega
        rw [h1] at ho; cases ho; exact hok
    · exact .inr ⟨h3, j, o', by omega, h5, h6⟩
  have no : ¬ opOk c b i o → ((∃ t, (Lp.out false : Lp (List Int) Bool) = .go t) ∧ ∀ j o, i ≤ j → b.Ops[j]? = some o → opOk c b j o) ∨ ((Lp.out false : Lp (List Int) Bool) = .out false ∧ ∃ j o, i ≤ j ∧ b.Ops[j]? = some o ∧ ¬ opOk c b j o) :=
    fun hn => .inr ⟨rfl, i, o, Nat.le_refl _, h1, hn⟩
  rw [m_r06_ops_L1]
  by_cases hh : headOk b i o
  · have e : (((((decide (o.Kind < (1 : Int))) || (decide ((21 : Int) < o.Kind))) || (!(m_r06_plain o))) || ((m_r06_UsesA o.Kind) && (!(m_r06_Has s o.A)))) || ((m_r06_UsesB o.Kind) && (!(m_r06_Has s o.B)))) = false := by
      obtain ⟨q1, q2, q3, q4, q5⟩ := hh
      rw [hA, hA]
      have a1 : ¬ o.Kind < 1 := by omega
      have a2 : ¬ 21 < o.Kind := by omega
      simp only [a1, a2, q3, decide_false, Bool.not_true, Bool.or_false, Bool.false_or]
      cases ha : m_r06_UsesA o.Kind <;> cases hb : m_r06_UsesB o.Kind <;> simp
      · exact (hs _).2 (q5 hb)
      · exact (hs _).2 (q4 ha)
      · exact ⟨(hs _).2 (q4 ha), (hs _).2 (q5 hb)⟩
    rw [if_neg (by rw [e]; decide)]
    by_cases hd : m_r06_Defines o.Kind = true
    · rw [if_pos hd]
      by_cases hD : defOk b i o
      · have e2 : (((decide (o.Dst < b.Params)) || (decide ((9999 : Int) < o.Dst))) || (m_r06_Has s o.Dst)) = false := by
          obtain ⟨q1, q2, q3⟩ := hD hd
          rw [hA]
          have a1 : ¬ o.Dst < b.Params := by omega
          have a2 : ¬ 9999 < o.Dst := by omega
          have a3 : ¬ o.Dst ∈ s := fun h => q3 ((hs _).1 h)
          simp [a1, a2, a3]
        rw [if_neg (by rw [e2]; decide)]
        have hs' : ∀ x, x ∈ s ++ [o.Dst] ↔ known b (i + 1) x := fun x => by
          rw [List.mem_append, hs, List.mem_singleton, known_succ h1]
          constructor
          · rintro (h | h)
            · exact .inl h
            · exact .inr ⟨hd, h.symm⟩
          · rintro (h | h)
            · exact .inl h
            · exact .inr h.2.symm
        change (∃ t, restT c b o (m_r06_ops_L1 c b u l (k + 1) (s ++ [o.Dst])) (.out false) = .go t) ∧ _ ∨ restT c b o (m_r06_ops_L1 c b u l (k + 1) (s ++ [o.Dst])) (.out false) = .out false ∧ _
        rcases rest_eq c b o (m_r06_ops_L1 c b u l (k + 1) (s ++ [o.Dst])) (.out false) with ⟨r1, r2⟩ | ⟨r1, r2⟩
        · rw [r2]; exact go _ hs' ⟨hh, hD, r1⟩
        · rw [r2]; exact no fun h => r1 h.2.2
      · have e2 : (((decide (o.Dst < b.Params)) || (decide ((9999 : Int) < o.Dst))) || (m_r06_Has s o.Dst)) = true := by
          rw [hA]
          by_cases a1 : o.Dst < b.Params
          · simp [a1]
          · by_cases a2 : 9999 < o.Dst
            · simp [a2]
            · by_cases a3 : o.Dst ∈ s
              · simp [a3]
              · exact absurd (fun _ => ⟨by omega, by omega, fun h => a3 ((hs _).2 h)⟩) hD
        rw [if_pos e2]; exact no fun h => hD h.2.1
    · rw [if_neg hd]
      have hs' : ∀ x, x ∈ s ↔ known b (i + 1) x := fun x => by
        rw [hs, known_succ h1]
        constructor
        · exact .inl
        · rintro (h | h)
          · exact h
          · exact absurd h.1 hd
      change (∃ t, restT c b o (m_r06_ops_L1 c b u l (k + 1) s) (.out false) = .go t) ∧ _ ∨ restT c b o (m_r06_ops_L1 c b u l (k + 1) s) (.out false) = .out false ∧ _
      rcases rest_eq c b o (m_r06_ops_L1 c b u l (k + 1) s) (.out false) with ⟨r1, r2⟩ | ⟨r1, r2⟩
      · rw [r2]; exact go _ hs' ⟨hh, fun h => absurd h hd, r1⟩
      · rw [r2]; exact no fun h => r1 h.2.2
  · have e : (((((decide (o.Kind < (1 : Int))) || (decide ((21 : Int) < o.Kind))) || (!(m_r06_plain o))) || ((m_r06_UsesA o.Kind) && (!(m_r06_Has s o.A)))) || ((m_r06_UsesB o.Kind) && (!(m_r06_Has s o.B)))) = true := by
      rw [hA, hA]
      by_cases a1 : o.Kind < 1
      · simp [a1]
      · by_cases a2 : 21 < o.Kind
        · simp [a2]
        · cases a3 : m_r06_plain o
          · simp
          · by_cases a4 : m_r06_UsesA o.Kind = true ∧ ¬ o.A ∈ s
            · simp [a4.1, a4.2]
            · by_cases a5 : m_r06_UsesB o.Kind = true ∧ ¬ o.B ∈ s
              · simp [a5.1, a5.2]
              · exact absurd ⟨by omega, by omega, a3, fun h => (hs _).1 (Decidable.byContradiction fun q => a4 ⟨h, q⟩), fun h => (hs _).1 (Decidable.byContradiction fun q => a5 ⟨h, q⟩)⟩ hh
    rw [if_pos e]; exact no fun h => hh h.1
theorem ops_iff (c : GCode List) (b : GBlock List) : m_r06_ops c b = true ↔ ∀ j o, b.Ops[j]? = some o → opOk c b j o := by
 unfold m_r06_ops
 obtain ⟨t, h1, h2⟩ := ops_L0 c b (b.Params - 0).toNat 0 []
 rw [h1, Lp.el_go]
 rcases ops_L1 c b t b.Ops 0 0 t rfl (fun x => by rw [h2, known0]; simp; omega) with ⟨⟨t2, h3⟩, h4⟩ | ⟨h3, j, o, _, h5, h6⟩
 · rw [h3, Lp.el_go]
   exact ⟨fun _ j o ho => h4 j o (Nat.zero_le _) ho, fun _ => rfl⟩
 · rw [h3, Lp.el_out]
   exact ⟨fun h => Bool.noConfusion h, fun h => absurd (h j o h5) h6⟩
end Go.Proofs.Ytbpccmnalhdpmaa
namespace Go.Proofs.Ytbpccmnalhdpmaa
open Go.RowKit Go.Fw
/-- what the kinds use -/
theorem fields_cases (k : Int) : (k = 1 ∧ m_ir_fields k = 9) ∨ (k = 2 ∧ m_ir_fields k = 3) ∨ (3 ≤ k ∧ k ≤ 14 ∧ m_ir_fields k = 7) ∨ (k = 15 ∧ m_ir_fields k = 11) ∨ (k = 16 ∧ m_ir_fields k = 14) ∨ (k = 17 ∧ m_ir_fields k = 8) ∨ (k = 18 ∧ m_ir_fields k = 2) ∨ ((k = 19 ∨ k = 20) ∧ m_ir_fields k = 24) ∨ (k = 21 ∧ m_ir_fields k = 48) ∨ ((k < 1 ∨ 21 < k) ∧ m_ir_fields k = 0) := by
 have hk : k = 1 ∨ k = 2 ∨ (3 ≤ k ∧ k ≤ 14) ∨ k = 15 ∨ k = 16 ∨ k = 17 ∨ k = 18 ∨ (k = 19 ∨ k = 20) ∨ k = 21 ∨ (k < 1 ∨ 21 < k) := by omega
 rcases hk with rfl | rfl | h | rfl | rfl | rfl | rfl | (rfl | rfl) | rfl | h
 · exact .inl ⟨rfl, rfl⟩
 · exact .inr (.inl ⟨rfl, rfl⟩)
 · exact .inr (.inr (.inl ⟨h.1, h.2, by unfold m_ir_fields; rw [if_neg (by omega), if_neg (by omega), if_pos h.1, if_pos h.2]⟩))
 · exact .inr (.inr (.inr (.inl ⟨rfl, rfl⟩)))
 · exact .inr (.inr (.inr (.inr (.inl ⟨rfl, rfl⟩))))
 · exact .inr (.inr (.inr (.inr (.inr (.inl ⟨rfl, rfl⟩)))))
 · exact .inr (.inr (.inr (.inr (.inr (.inr (.inl ⟨rfl, rfl⟩))))))
 · exact .inr (.inr (.inr (.inr (.inr (.inr (.inr (.inl ⟨.inl rfl, rfl⟩)))))))
 · exact .inr (.inr (.inr (.inr (.inr (.inr (.inr (.inl ⟨.inr rfl, rfl⟩)))))))
 · exact .inr (.inr (.inr (.inr (.inr (.inr (.inr (.inr (.inl ⟨rfl, rfl⟩))))))))
 · refine .inr (.inr (.inr (.inr (.inr (.inr (.inr (.inr (.inr ⟨h, ?_⟩))))))))
   unfold m_ir_fields
   rcases h with h | h
   · rw [if_neg (by omega), if_neg (by omega), if_neg (by omega)]
   · rw [if_neg (by omega), if_neg (by omega), if_pos (by omega), if_neg (by omega), if_neg (by omega), if_neg (by omega), if_neg (by omega), if_neg (by omega), if_neg (by omega), if_neg (by omega), if_neg (by omega)]
theorem bw9 : bwAnd 9 1 = 1 ∧ bwAnd 9 2 = 0 ∧ bwAnd 9 4 = 0 ∧ bwAnd 9 8 = 8 ∧ bwAnd 9 16 = 0 ∧ bwAnd 9 32 = 0 := by decide
theorem bw3 : bwAnd 3 1 = 1 ∧ bwAnd 3 2 = 2 ∧ bwAnd 3 4 = 0 ∧ bwAnd 3 8 = 0 ∧ bwAnd 3 16 = 0 ∧ bwAnd 3 32 = 0 := by decide
theorem bw7 : bwAnd 7 1 = 1 ∧ bwAnd 7 2 = 2 ∧ bwAnd 7 4 = 4 ∧ bwAnd 7 8 = 0 ∧ bwAnd 7 16 = 0 ∧ bwAnd 7 32 = 0 := by decide
theorem bw11 : bwAnd 11 1 = 1 ∧ bwAnd 11 2 = 2 ∧ bwAnd 11 4 = 0 ∧ bwAnd 11 8 = 8 ∧ bwAnd 11 16 = 0 ∧ bwAnd 11 32 = 0 := by decide
theorem bw14 : bwAnd 14 1 = 0 ∧ bwAnd 14 2 = 2 ∧ bwAnd 14 4 = 4 ∧ bwAnd 14 8 = 8 ∧ bwAnd 14 16 = 0 ∧ bwAnd 14 32 = 0 := by decide
theorem bw8 : bwAnd 8 1 = 0 ∧ bwAnd 8 2 = 0 ∧ bwAnd 8 4 = 0 ∧ bwAnd 8 8 = 8 ∧ bwAnd 8 16 = 0 ∧ bwAnd 8 32 = 0 := by decide
theorem bw2 : bwAnd 2 1 = 0 ∧ bwAnd 2 2 = 2 ∧ bwAnd 2 4 = 0 ∧ bwAnd 2 8 = 0 ∧ bwAnd 2 16 = 0 ∧ bwAnd 2 32 = 0 := by decide
theorem bw24 : bwAnd 24 1 = 0 ∧ bwAnd 24 2 = 0 ∧ bwAnd 24 4 = 0 ∧ bwAnd 24 8 = 8 ∧ bwAnd 24 16 = 16 ∧ bwAnd 24 32 = 0 := by decide
theorem bw48 : bwAnd 48 1 = 0 ∧ bwAnd 48 2 = 0 ∧ bwAnd 48 4 = 0 ∧ bwAnd 48 8 = 0 ∧ bwAnd 48 16 = 16 ∧ bwAnd 48 32 = 32 := by decide
theorem bw0 : bwAnd 0 1 = 0 ∧ bwAnd 0 2 = 0 ∧ bwAnd 0 4 = 0 ∧ bwAnd 0 8 = 0 ∧ bwAnd 0 16 = 0 ∧ bwAnd 0 32 = 0 := by decide
theorem def_iff (k : Int) : m_r06_Defines k = true ↔ 1 ≤ k ∧ k ≤ 15 := by
 unfold m_r06_Defines
 split
 · simp; omega
 · simp; omega
theorem usesA_iff (k : Int) : m_r06_UsesA k = true ↔ (2 ≤ k ∧ k ≤ 16) ∨ k = 18 := by unfold m_r06_UsesA; simp
theorem usesB_iff (k : Int) : m_r06_UsesB k = true ↔ (3 ≤ k ∧ k ≤ 14) ∨ k = 16 := by unfold m_r06_UsesB; simp
theorem f1 (k : Int) : bwAnd (m_ir_fields k) 1 = 0 ↔ ¬ (1 ≤ k ∧ k ≤ 15) := by
 rcases fields_cases k with h | h | h | h | h | h | h | h | h | h
 · rw [h.2, bw9.1]; omega
 · rw [h.2, bw3.1]; omega
 · rw [h.2.2, bw7.1]; omega
 · rw [h.2, bw11.1]; omega
 · rw [h.2, bw14.1]; omega
 · rw [h.2, bw8.1]; omega
 · rw [h.2, bw2.1]; omega
 · rw [h.2, bw24.1]; omega
 · rw [h.2, bw48.1]; omega
 · rw [h.2, bw0.1]; omega
theorem f2 (k : Int) : bwAnd (m_ir_fields k) 2 = 0 ↔ ¬ ((2 ≤ k ∧ k ≤ 16) ∨ k = 18) := by
 rcases fields_cases k with h | h | h | h | h | h | h | h | h | h
 · rw [h.2, bw9.2.1]; omega
 · rw [h.2, bw3.2.1]; omega
 · rw [h.2.2, bw7.2.1]; omega
 · rw [h.2, bw11.2.1]; omega
 · rw [h.2, bw14.2.1]; omega
 · rw [h.2, bw8.2.1]; omega
 · rw [h.2, bw2.2.1]; omega
 · rw [h.2, bw24.2.1]; omega
 · rw [h.2, bw48.2.1]; omega
 · rw [h.2, bw0.2.1]; omega
theorem f4 (k : Int) : bwAnd (m_ir_fields k) 4 = 0 ↔ ¬ ((3 ≤ k ∧ k ≤ 14) ∨ k = 16) := by
 rcases fields_cases k with h | h | h | h | h | h | h | h | h | h
 · rw [h.2, bw9.2.2.1]; omega
 · rw [h.2, bw3.2.2.1]; omega
 · rw [h.2.2, bw7.2.2.1]; omega
 · rw [h.2, bw11.2.2.1]; omega
 · rw [h.2, bw14.2.2.1]; omega
 · rw [h.2, bw8.2.2.1]; omega
 · rw [h.2, bw2.2.2.1]; omega
 · rw [h.2, bw24.2.2.1]; omega
 · rw [h.2, bw48.2.2.1]; omega
 · rw [h.2, bw0.2.2.1]; omega
theorem f8 (k : Int) : bwAnd (m_ir_fields k) 8 = 0 ↔ ¬ (k = 1 ∨ k = 15 ∨ k = 16 ∨ k = 17 ∨ k = 19 ∨ k = 20) := by
 rcases fields_cases k with h | h | h | h | h | h | h | h | h | h
 · rw [h.2, bw9.2.2.2.1]; omega
 · rw [h.2, bw3.2.2.2.1]; omega
 · rw [h.2.2, bw7.2.2.2.1]; omega
 · rw [h.2, bw11.2.2.2.1]; omega
 · rw [h.2, bw14.2.2.2.1]; omega
 · rw [h.2, bw8.2.2.2.1]; omega
 · rw [h.2, bw2.2.2.2.1]; omega
 · rw [h.2, bw24.2.2.2.1]; omega
 · rw [h.2, bw48.2.2.2.1]; omega
 · rw [h.2, bw0.2.2.2.1]; omega
theorem f16 (k : Int) : bwAnd (m_ir_fields k) 16 = 0 ↔ ¬ (k = 19 ∨ k = 20 ∨ k = 21) := by
 rcases fields_cases k with h | h | h | h | h | h | h | h | h | h
 · rw [h.2, bw9.2.2.2.2.1]; omega
 · rw [h.2, bw3.2.2.2.2.1]; omega
 · rw [h.2.2, bw7.2.2.2.2.1]; omega
 · rw [h.2, bw11.2.2.2.2.1]; omega
 · rw [h.2, bw14.2.2.2.2.1]; omega
 · rw [h.2, bw8.2.2.2.2.1]; omega
 · rw [h.2, bw2.2.2.2.2.1]; omega
 · rw [h.2, bw24.2.2.2.2.1]; omega
 · rw [h.2, bw48.2.2.2.2.1]; omega
 · rw [h.2, bw0.2.2.2.2.1]; omega
theorem f32 (k : Int) : bwAnd (m_ir_fields k) 32 = 0 ↔ ¬ (k = 21) := by
 rcases fields_cases k with h | h | h | h | h | h | h | h | h | h
 · rw [h.2, bw9.2.2.2.2.2]; omega
 · rw [h.2, bw3.2.2.2.2.2]; omega
 · rw [h.2.2, bw7.2.2.2.2.2]; omega
 · rw [h.2, bw11.2.2.2.2.2]; omega
 · rw [h.2, bw14.2.2.2.2.2]; omega
 · rw [h.2, bw8.2.2.2.2.2]; omega
 · rw [h.2, bw2.2.2.2.2.2]; omega
 · rw [h.2, bw24.2.2.2.2.2]; omega
 · rw [h.2, bw48.2.2.2.2.2]; omega
 · rw [h.2, bw0.2.2.2.2.2]; omega
theorem f0 (k : Int) : m_ir_fields k = 0 ↔ ¬ (1 ≤ k ∧ k ≤ 21) := by
 rcases fields_cases k with h | h | h | h | h | h | h | h | h | h
 · rw [h.2]; omega
 · rw [h.2]; omega
 · rw [h.2.2]; omega
 · rw [h.2]; omega
 · rw [h.2]; omega
 · rw [h.2]; omega
 · rw [h.2]; omega
 · rw [h.2]; omega
 · rw [h.2]; omega
 · rw [h.2]; omega
theorem within_iff (n m : Int) : m_ir_within n m = true ↔ 0 ≤ n ∧ n ≤ m := by
 unfold m_ir_within
 split
 · simp; omega
 · simp; omega
theorem clean1_iff (u v f : Int) : m_ir_clean_1 u v f = true ↔ bwAnd f u = 0 ∧ v ≠ 0 := by
 unfold m_ir_clean_1
 split
 · rename_i h; simp [h]
 · rename_i h; simp [h]
theorem plain_iff (o : GOp) : m_r06_plain o = true ↔ (¬ (1 ≤ o.Kind ∧ o.Kind ≤ 15) → o.Dst = 0) ∧ (¬ ((2 ≤ o.Kind ∧ o.Kind ≤ 16) ∨ o.Kind = 18) → o.A = 0) ∧ (¬ ((3 ≤ o.Kind ∧ o.Kind ≤ 14) ∨ o.Kind = 16) → o.B = 0) ∧
   (¬ (o.Kind = 1 ∨ o.Kind = 15 ∨ o.Kind = 16 ∨ o.Kind = 17 ∨ o.Kind = 19 ∨ o.Kind = 20) → o.N = 0) ∧ (¬ (o.Kind = 19 ∨ o.Kind = 20 ∨ o.Kind = 21) → o.Ctx = 0) ∧ (¬ o.Kind = 21 → o.Var = 0 ∧ o.Piece = 0 ∧ [o.Src.Kind, o.Src.Val, o.Src.Add] = [0, 0, 0]) := by
 have d := def_iff o.Kind
 have ua := usesA_iff o.Kind
 have ub := usesB_iff o.Kind
 unfold m_r06_plain
 generalize [o.Src.Kind, o.Src.Val, o.Src.Add] = q
 generalize m_r06_Defines o.Kind = D at d
 generalize m_r06_UsesA o.Kind = A at ua
 generalize m_r06_UsesB o.Kind = B at ub
 by_cases c1 : ((((!D) && (decide (o.Dst ≠ (0 : Int)))) || ((!A) && (decide (o.A ≠ (0 : Int))))) || ((!B) && (decide (o.B ≠ (0 : Int))))) = true
 · rw [if_pos c1]
   refine ⟨fun h => Bool.noConfusion h, fun h => ?_⟩
   exfalso
   simp only [Bool.or_eq_true, Bool.and_eq_true, Bool.not_eq_true', decide_eq_true_eq, ← Bool.not_eq_true, d, ua, ub] at c1
   rcases c1 with (c1 | c1) | c1
   · exact c1.2 (h.1 c1.1)
   · exact c1.2 (h.2.1 c1.1)
   · exact c1.2 (h.2.2.1 c1.1)
 · rw [if_neg c1]
   simp only [Bool.or_eq_true, Bool.and_eq_true, Bool.not_eq_true', decide_eq_true_eq, ← Bool.not_eq_true, d, ua, ub] at c1
   split
   · rename_i c2
     refine ⟨fun h => Bool.noConfusion h, fun h => ?_⟩
     exfalso
     simp only [Bool.or_eq_true, Bool.and_eq_true, Bool.not_eq_true', decide_eq_true_eq, ← Bool.not_eq_true] at c2
     have h4 := h.2.2.2.1
     have h5 := h.2.2.2.2.1
     omega
   · rename_i c2
     simp only [Bool.or_eq_true, Bool.and_eq_true, Bool.not_eq_true', decide_eq_true_eq, ← Bool.not_eq_true] at c2 ⊢
     constructor
     · intro h
       refine ⟨by omega, by omega, by omega, by omega, by omega, fun hk => ?_⟩
       rcases h with h | h
       · exact absurd h hk
       · exact ⟨h.1.1, h.1.2, h.2⟩
     · intro h
       by_cases hk : o.Kind = 21
       · exact .inl hk
       · have := h.2.2.2.2.2 hk
         exact .inr ⟨⟨this.1, this.2.1⟩, this.2.2⟩
theorem clean_iff (o : GOp) : m_ir_clean o = true ↔ (1 ≤ o.Kind ∧ o.Kind ≤ 21) ∧ m_r06_plain o = true := by
 rw [plain_iff]
 unfold m_ir_clean
 by_cases h0 : m_ir_fields o.Kind = 0
 · rw [if_pos h0]
   refine ⟨fun h => Bool.noConfusion h, fun h => absurd h.1 ((f0 _).1 h0)⟩
 · rw [if_neg h0]
   have h1 : 1 ≤ o.Kind ∧ o.Kind ≤ 21 := Decidable.byContradiction fun h => h0 ((f0 _).2 h)
   generalize [o.Src.Kind, o.Src.Val, o.Src.Add] = q
   simp only [Bool.not_eq_true', ← Bool.not_eq_true, Bool.or_eq_true, Bool.and_eq_true, decide_eq_true_eq, clean1_iff, f1, f2, f4, f8, f16, f32]
   constructor
   · intro h
     refine ⟨h1, by omega, by omega, by omega, by omega, by omega, fun hk => ⟨by omega, by omega, ?_⟩⟩
     exact Decidable.byContradiction fun hq => h (.inr ⟨hk, hq⟩)
   · rintro ⟨_, g1, g2, g3, g4, g5, g6⟩ h
     rcases h with h | h
     · by_cases hk : o.Kind = 21
       · omega
       · have := g6 hk
         omega
     · exact h.2 (g6 h.1).2.2
end Go.Proofs.Ytbpccmnalhdpmaa
namespace Go.Proofs.Ytbpccmnalhdpmaa
open Go.RowKit Go.Fw
theorem wr_small {n : Int} (h1 : -9223372036854775808 ≤ n) (h2 : n ≤ 9223372036854775807) : wr n = n := w64 h1 h2
/-- the map holds what has been defined ahead of operation i -/
def MapOk (b : GBlock List) (i : Nat) (u : List (Int × Int)) : Prop := ∀ v x, mget u v = some x ↔ ∃ j o, x = ((j : Nat) : Int) ∧ j < i ∧ b.Ops[j]? = some o ∧ m_r06_Defines o.Kind = true ∧ o.Dst = v
theorem block_L0 (c : GCode List) (b : GBlock List) : ∀ (l : List GOp) (i : Nat) (s : List (Int × Int)), b.Ops.drop i = l → MapOk b i s → (∀ j o, j < i → b.Ops[j]? = some o → defOk b j o) →
  (∃ u, m_ir_rightBlock_L0 c b l i s = .go u ∧ MapOk b b.Ops.length u ∧ ∀ j o, b.Ops[j]? = some o → defOk b j o) ∨ (m_ir_rightBlock_L0 c b l i s = .out false ∧ ∃ j o, b.Ops[j]? = some o ∧ ¬ defOk b j o)
 | [], i, s, hl, hs, hd => by
  have hi : b.Ops.length ≤ i := by simpa using hl
  refine .inl ⟨s, rfl, fun v x => ?_, fun j o ho => hd j o (by have := (List.getElem?_eq_some_iff.1 ho).1; omega) ho⟩
  rw [hs]
  constructor
  · rintro ⟨j, o, h1, h2, h3, h4⟩
    exact ⟨j, o, h1, (List.getElem?_eq_some_iff.1 h3).1, h3, h4⟩
  · rintro ⟨j, o, h1, h2, h3, h4⟩
    exact ⟨j, o, h1, by omega, h3, h4⟩
 | o :: l, i, s, hl, hs, hd => by
  obtain ⟨h1, h2⟩ := drop_get hl
  rw [m_ir_rightBlock_L0]
  have hdi := def_iff o.Kind
  by_cases hD : m_r06_Defines o.Kind = true
  · rw [if_neg (by rw [f1]; exact fun h => h (hdi.1 hD))]
    have hsome : (mget s o.Dst).isSome = true ↔ ∃ j o', j < i ∧ b.Ops[j]? = some o' ∧ m_r06_Defines o'.Kind = true ∧ o'.Dst = o.Dst := by
      constructor
      · intro h
        obtain ⟨x, hx⟩ := Option.isSome_iff_exists.1 h
        obtain ⟨j, o', q1, q2, q3, q4, q5⟩ := (hs _ _).1 hx
        exact ⟨j, o', q2, q3, q4, q5⟩
      · rintro ⟨j, o', q2, q3, q4, q5⟩
        rw [(hs o.Dst ((j : Nat) : Int)).2 ⟨j, o', rfl, q2, q3, q4, q5⟩]; rfl
    by_cases hok : defOk b i o
    · obtain ⟨q1, q2, q3⟩ := hok hD
      have e : (((mget s o.Dst).isSome || (decide (o.Dst < b.Params))) || (decide ((9999 : Int) < o.Dst))) = false := by
        have a1 : ¬ o.Dst < b.Params := by omega
        have a2 : ¬ 9999 < o.Dst := by omega
        have a3 : (mget s o.Dst).isSome = false := Bool.eq_false_iff.2 fun h => q3 (.inr (hsome.1 h))
        simp [a1, a2, a3]
      rw [if_neg (by rw [e]; decide)]
      refine block_L0 c b l (i + 1) _ h2 (fun v x => ?_) (fun j o' hj ho => ?_)
      · rw [mget_put]
        by_cases hv : v = o.Dst
        · rw [if_pos hv]
          subst hv
          constructor
          · intro h
            injection h with h
            exact ⟨i, o, h.symm, by omega, h1, hD, rfl⟩
          · rintro ⟨j, o', r1, r2, r3, r4, r5⟩
            rcases Nat.lt_or_ge j i with hj | hj
            · exact absurd (.inr ⟨j, o', hj, r3, r4, r5⟩) q3
            · obtain rfl : j = i := by omega
              rw [r1]
        · rw [if_neg hv, hs]
          constructor
          · rintro ⟨j, o', r1, r2, r3, r4, r5⟩
            exact ⟨j, o', r1, by omega, r3, r4, r5⟩
          · rintro ⟨j, o', r1, r2, r3, r4, r5⟩
            rcases Nat.lt_or_ge j i with hj | hj
            · exact ⟨j, o', r1, hj, r3, r4, r5⟩
            · obtain rfl : j = i := by omega
              rw [h1] at r3; cases r3
              exact absurd r5.symm hv
      · rcases Nat.lt_or_ge j i with hj' | hj'
        · exact hd j o' hj' ho
        · obtain rfl : j = i := by omega
          rw [h1] at ho; cases ho; exact hok
    · have e : (((mget s o.Dst).isSome || (decide (o.Dst < b.Params))) || (decide ((9999 : Int) < o.Dst))) = true := by
        by_cases a1 : o.Dst < b.Params
        · simp [a1]
        · by_cases a2 : 9999 < o.Dst
          · simp [a2]
          · cases a3 : (mget s o.Dst).isSome with
            | true => simp
            | false =>
              refine absurd (fun _ => ⟨by omega, by omega, fun hk => ?_⟩) hok
              rcases hk with hk | hk
              · omega
              · rw [hsome.2 hk] at a3; cases a3
      rw [if_pos e]
      exact .inr ⟨rfl, i, o, h1, hok⟩
  · rw [if_pos (by rw [f1]; exact fun h => hD (hdi.2 h))]
    refine block_L0 c b l (i + 1) _ h2 (fun v x => ?_) (fun j o' hj ho => ?_)
    · rw [hs]
      constructor
      · rintro ⟨j, o', r1, r2, r3, r4, r5⟩
        exact ⟨j, o', r1, by omega, r3, r4, r5⟩
      · rintro ⟨j, o', r1, r2, r3, r4, r5⟩
        rcases Nat.lt_or_ge j i with hj | hj
        · exact ⟨j, o', r1, hj, r3, r4, r5⟩
        · obtain rfl : j = i := by omega
          rw [h1] at r3; cases r3
          exact absurd r4 hD
    · rcases Nat.lt_or_ge j i with hj' | hj'
      · exact hd j o' hj' ho
      · obtain rfl : j = i := by omega
        rw [h1] at ho; cases ho; exact fun h => absurd h hD
theorem has_iff {b : GBlock List} {u : List (Int × Int)} (hu : MapOk b b.Ops.length u) (hp : 0 ≤ b.Params ∧ b.Params ≤ 999) (v : Int) (i : Nat) : m_ir_scope_has b.Params u v ((i : Nat) : Int) = true ↔ known b i v := by
 unfold m_ir_scope_has
 rw [wr_small (by omega) (by omega)]
 by_cases h : m_ir_within v (b.Params - 1) = true
 · rw [if_pos h]
   rw [within_iff] at h
   exact ⟨fun _ => .inl ⟨h.1, by omega⟩, fun _ => rfl⟩
 · rw [if_neg h]
   rw [within_iff] at h
   cases hm : mget u v with
   | none =>
    refine ⟨fun h => Bool.noConfusion h, fun hk => ?_⟩
    rcases hk with hk | ⟨j, o, q1, q2, q3, q4⟩
    · omega
    · rw [(hu v ((j : Nat) : Int)).2 ⟨j, o, rfl, (List.getElem?_eq_some_iff.1 q2).1, q2, q3, q4⟩] at hm; cases hm
   | some x =>
    obtain ⟨j, o, q1, q2, q3, q4, q5⟩ := (hu v x).1 hm
    show (if true = true then decide (x < ((i : Nat) : Int)) else false) = true ↔ _
    rw [if_pos rfl, decide_eq_true_eq]
    constructor
    · intro hx
      exact .inr ⟨j, o, by omega, q3, q4, q5⟩
    · rintro (hk | ⟨j', o', r1, r2, r3, r4⟩)
      · omega
      · have := (hu v ((j' : Nat) : Int)).2 ⟨j', o', rfl, (List.getElem?_eq_some_iff.1 r2).1, r2, r3, r4⟩
        rw [hm] at this
        injection this with this
        omega
theorem source_iff {c : GCode List} {b : GBlock List} {u : List (Int × Int)} (hu : MapOk b b.Ops.length u) (hp : 0 ≤ b.Params ∧ b.Params ≤ 999) (hc : 0 ≤ c.Params ∧ c.Params ≤ 4) (o : GOp) :
   m_ir_rightBind c b.Params u o ((b.Ops.length : Nat) : Int) = true ↔ 0 ≤ o.Var ∧ o.Var < 24 ∧ 0 ≤ o.Piece ∧ o.Piece < 4 ∧ m_r06_source c o.Src (m_r06_Values b) = true := by
 have hv := has_iff hu hp o.Src.Val b.Ops.length
 unfold m_ir_rightBind m_r06_source
 rw [has_dec, wr_small (n := c.Params - 1) (by omega) (by omega)]
 have hm := mem_vals b o.Src.Val
 have w1 := within_iff o.Var 23
 have w2 := within_iff o.Piece 3
 have w3 := within_iff o.Src.Val (c.Params - 1)
 by_cases a1 : m_ir_within o.Var 23 = true
 · rw [if_pos a1]
   rw [w1] at a1
   by_cases a2 : m_ir_within o.Piece 3 = true
   · rw [if_pos a2]
     rw [w2] at a2
     have key : ∀ (X Y : Bool), (X = true ↔ Y = true) → (X = true ↔ 0 ≤ o.Var ∧ o.Var < 24 ∧ 0 ≤ o.Piece ∧ o.Piece < 4 ∧ Y = true) := fun X Y h => by
       rw [h]
       exact ⟨fun q => ⟨by omega, by omega, by omega, by omega, q⟩, fun q => q.2.2.2.2⟩
     refine key _ _ ?_
     by_cases k0 : o.Src.Kind = 0
     · rw [if_pos k0, if_pos k0]
     · rw [if_neg k0, if_neg k0]
       by_cases k1 : o.Src.Kind = 1
       · rw [if_pos k1, if_pos k1]
       · rw [if_neg k1, if_neg k1]
         by_cases k2 : o.Src.Kind = 2
         · rw [if_pos k2, if_pos k2, hv, decide_eq_true_eq, hm]
         · rw [if_neg k2, if_neg k2]
           by_cases k3 : o.Src.Kind = 3
           · rw [if_pos k3, if_pos k3, w3]
             by_cases k4 : 0 ≤ o.Src.Val
             · rw [if_pos k4, decide_eq_true_eq]; omega
             · rw [if_neg k4]
               exact ⟨fun h => absurd h.1 k4, fun h => Bool.noConfusion h⟩
           · rw [if_neg k3, if_neg k3]
   · rw [if_neg a2]
     rw [w2] at a2
     exact ⟨fun h => Bool.noConfusion h, fun h => absurd ⟨h.2.2.1, by omega⟩ a2⟩
 · rw [if_neg a1]
   rw [w1] at a1
   exact ⟨fun h => Bool.noConfusion h, fun h => absurd ⟨h.1, by omega⟩ a1⟩
end Go.Proofs.Ytbpccmnalhdpmaa
namespace Go.Proofs.Ytbpccmnalhdpmaa
open Go.RowKit Go.Fw
section
variable {c : GCode List} {b : GBlock List} {u : List (Int × Int)} (hu : MapOk b b.Ops.length u) (hp : 0 ≤ b.Params ∧ b.Params ≤ 999) (hc : 0 ≤ c.Params ∧ c.Params ≤ 4)
include hu hp in
theorem rightOp_iff (o : GOp) (i : Nat) : m_ir_rightOp c b.Params u o ((i : Nat) : Int) = true ↔ (m_r06_UsesA o.Kind = true → known b i o.A) ∧ (m_r06_UsesB o.Kind = true → known b i o.B) ∧
   ((o.Kind = 19 ∨ o.Kind = 20 ∨ o.Kind = 21) → 0 ≤ o.Ctx ∧ o.Ctx < (c.Contexts.length : Nat)) ∧ ((o.Kind = 15 ∨ o.Kind = 16 ∨ o.Kind = 17) → 0 ≤ o.N ∧ o.N < (c.Objects.length : Nat)) ∧ ((o.Kind = 19 ∨ o.Kind = 20) → 0 ≤ o.N ∧ o.N ≤ 9999) := by
 have ha := has_iff hu hp o.A i
 have hb := has_iff hu hp o.B i
 have g2 := f2 o.Kind
 have g4 := f4 o.Kind
 have g16 := f16 o.Kind
 have wc := within_iff o.Ctx (((c.Contexts.length : Nat) : Int) - 1)
 have wn := within_iff o.N (((c.Objects.length : Nat) : Int) - 1)
 have wm := within_iff o.N 9999
 rw [usesA_iff, usesB_iff]
 unfold m_ir_rightOp
 generalize m_ir_scope_has b.Params u o.A ((i : Nat) : Int) = HA at ha
 generalize m_ir_scope_has b.Params u o.B ((i : Nat) : Int) = HB at hb
 generalize m_ir_within o.Ctx (((c.Contexts.length : Nat) : Int) - 1) = WC at wc
 generalize known b i o.A = KA at ha
 generalize known b i o.B = KB at hb
 split
 · rename_i h
   refine ⟨fun h => Bool.noConfusion h, fun q => ?_⟩
   exfalso
   simp only [Bool.or_eq_true, Bool.and_eq_true, Bool.not_eq_true', decide_eq_true_eq, ← Bool.not_eq_true, ne_eq, g2, g4, g16, ha, hb, wc, Decidable.not_not] at h
   rcases h with (h | h) | h
   · exact h.2 (q.1 h.1)
   · exact h.2 (q.2.1 h.1)
   · have := q.2.2.1 h.1
     exact h.2 (by omega)
 · rename_i h
   simp only [Bool.or_eq_true, Bool.and_eq_true, Bool.not_eq_true', decide_eq_true_eq, ← Bool.not_eq_true, ne_eq, g2, g4, g16, ha, hb, wc, Decidable.not_not] at h
   have q1 : ((2 ≤ o.Kind ∧ o.Kind ≤ 16) ∨ o.Kind = 18) → KA := fun k => Classical.byContradiction fun n => h (.inl (.inl ⟨k, n⟩))
   have q2 : ((3 ≤ o.Kind ∧ o.Kind ≤ 14) ∨ o.Kind = 16) → KB := fun k => Classical.byContradiction fun n => h (.inl (.inr ⟨k, n⟩))
   have q3 : (o.Kind = 19 ∨ o.Kind = 20 ∨ o.Kind = 21) → 0 ≤ o.Ctx ∧ o.Ctx < (c.Contexts.length : Nat) := fun k => by
     have : 0 ≤ o.Ctx ∧ o.Ctx ≤ ((c.Contexts.length : Nat) : Int) - 1 := Classical.byContradiction fun n => h (.inr ⟨k, n⟩)
     omega
   split
   · rename_i k
     simp only [Bool.or_eq_true, decide_eq_true_eq] at k
     rw [wn]
     exact ⟨fun w => ⟨q1, q2, q3, fun _ => by omega, fun _ => by omega⟩, fun w => by have := w.2.2.2.1 k; omega⟩
   · rename_i k
     simp only [Bool.or_eq_true, decide_eq_true_eq] at k
     split
     · rename_i k2
       simp only [Bool.or_eq_true, decide_eq_true_eq] at k2
       rw [wm]
       exact ⟨fun w => ⟨q1, q2, q3, fun k3 => absurd k3 k, fun _ => w⟩, fun w => w.2.2.2.2 k2⟩
     · rename_i k2
       simp only [Bool.or_eq_true, decide_eq_true_eq] at k2
       exact ⟨fun _ => ⟨q1, q2, q3, fun k3 => absurd k3 k, fun k3 => absurd k3 k2⟩, fun _ => rfl⟩
include hu hp hc in
theorem cond_iff (o : GOp) (i : Nat) : (((!(m_ir_clean o)) || (!(m_ir_rightOp c b.Params u o ((i : Nat) : Int)))) || ((decide (o.Kind = (21 : Int))) && (!(m_ir_rightBind c b.Params u o ((b.Ops.length : Nat) : Int))))) = true ↔ ¬ (headOk b i o ∧ restOk c b o) := by
 have h1 := clean_iff o
 have h2 := rightOp_iff (c := c) hu hp o i
 have h3 := source_iff hu hp hc o
 simp only [Bool.or_eq_true, Bool.and_eq_true, Bool.not_eq_true', decide_eq_true_eq, ← Bool.not_eq_true, h1, h2, h3]
 unfold headOk restOk
 constructor
 · rintro ((h | h) | h) ⟨⟨g1, g2, g3, g4, g5⟩, r1, r2, r3⟩
   · exact h ⟨⟨g1, g2⟩, g3⟩
   · refine h ⟨g4, g5, fun k => ?_, r1, fun k => by have := r2 k; omega⟩
     rcases k with k | k | k
     · have := r2 (.inl k); omega
     · have := r2 (.inr k); omega
     · have := r3 k; omega
   · exact h.2 (r3 h.1).2.2
 · intro h
   refine Classical.byContradiction fun n => h ?_
   have n1 : (1 ≤ o.Kind ∧ o.Kind ≤ 21) ∧ m_r06_plain o = true := Classical.byContradiction fun q => n (.inl (.inl q))
   have n2 := Classical.byContradiction fun q => n (.inl (.inr q))
   have n3 : o.Kind = 21 → _ := fun k => Classical.byContradiction fun q => n (.inr ⟨k, q⟩)
   obtain ⟨a1, a2, a3, a4, a5⟩ := n2
   refine ⟨⟨n1.1.1, n1.1.2, n1.2, a1, a2⟩, a4, fun k => ?_, fun k => ?_⟩
   · have b1 := a5 k
     have b2 := a3 (by omega)
     omega
   · have b2 := a3 (.inr (.inr k))
     obtain ⟨c1, c2, c3, c4, c5⟩ := n3 k
     exact ⟨b2.1, b2.2, c1, c2, c3, c4, c5⟩
include hu hp hc in
theorem block_L1 : ∀ (l : List GOp) (i : Nat), b.Ops.drop i = l →
  (m_ir_rightBlock_L1 c b u l i = .go () ∧ ∀ j o, i ≤ j → b.Ops[j]? = some o → headOk b j o ∧ restOk c b o) ∨ (m_ir_rightBlock_L1 c b u l i = .out false ∧ ∃ j o, b.Ops[j]? = some o ∧ ¬ (headOk b j o ∧ restOk c b o))
 | [], i, hl => by
  have hi : b.Ops.length ≤ i := by simpa using hl
  exact .inl ⟨rfl, fun j o hj ho => by have := (List.getElem?_eq_some_iff.1 ho).1; omega⟩
 | o :: l, i, hl => by
  obtain ⟨h1, h2⟩ := drop_get hl
  rw [m_ir_rightBlock_L1]
  by_cases hok : headOk b i o ∧ restOk c b o
  · rw [if_neg (by rw [cond_iff hu hp hc]; exact fun h => h hok)]
    rcases block_L1 l (i + 1) h2 with ⟨h3, h4⟩ | h3
    · refine .inl ⟨h3, fun j o' hj ho => ?_⟩
      rcases Nat.lt_or_ge i j with hij | hij
      · exact h4 j o' hij ho
      · obtain rfl : j = i := by omega
        rw [h1] at ho; cases ho; exact hok
    · exact .inr h3
  · rw [if_pos ((cond_iff hu hp hc o i).2 hok)]
    exact .inr ⟨rfl, i, o, h1, hok⟩
end
/-- a block's operations are right to both, and then the terminator decides -/
theorem block_eq (c : GCode List) (b : GBlock List) (hp : 0 ≤ b.Params ∧ b.Params ≤ 999) (hc : 0 ≤ c.Params ∧ c.Params ≤ 4) :
   (m_r06_ops c b = true ∧ ∃ u, MapOk b b.Ops.length u ∧ m_ir_rightBlock c b = m_ir_rightTerm c b.Params u b.Term ((b.Ops.length : Nat) : Int)) ∨ (m_r06_ops c b = false ∧ m_ir_rightBlock c b = false) := by
 have h0 := ops_iff c b
 unfold m_ir_rightBlock
 rcases block_L0 c b b.Ops 0 [] rfl (fun v x => ⟨fun h => (by cases h), fun ⟨j, o, _, h, _⟩ => absurd h (by omega)⟩) (fun j o h => by omega) with ⟨u, h1, h2, h3⟩ | ⟨h1, j, o, h2, h3⟩
 · rw [h1, Lp.el_go]
   rcases block_L1 h2 hp hc b.Ops 0 rfl with ⟨h4, h5⟩ | ⟨h4, j, o, h5, h6⟩
   · rw [h4, Lp.el_go]
     exact .inl ⟨h0.2 fun j o ho => ⟨(h5 j o (Nat.zero_le _) ho).1, h3 j o ho, (h5 j o (Nat.zero_le _) ho).2⟩, u, h2, rfl⟩
   · rw [h4, Lp.el_out]
     exact .inr ⟨Bool.eq_false_iff.2 fun h => h6 ⟨(h0.1 h j o h5).1, (h0.1 h j o h5).2.2⟩, rfl⟩
 · rw [h1, Lp.el_out]
   exact .inr ⟨Bool.eq_false_iff.2 fun h => h3 (h0.1 h j o h2).2.1, rfl⟩
end Go.Proofs.Ytbpccmnalhdpmaa
namespace Go.Proofs.Ytbpccmnalhdpmaa
open Go.RowKit Go.Fw
section
variable {c : GCode List} {b : GBlock List} {u : List (Int × Int)} (hu : MapOk b b.Ops.length u) (hp : 0 ≤ b.Params ∧ b.Params ≤ 999)
/-- all of these are values of the block -/
def allV (b : GBlock List) (l : List Int) : Prop := ∀ v ∈ l, known b b.Ops.length v
include hu hp in
theorem all_L0 (l0 : List Int) : ∀ (l : List Int) (k : Nat), (m_ir_scope_all_L0 b.Params u ((b.Ops.length : Nat) : Int) l0 l k = .go () ∧ allV b l) ∨ (m_ir_scope_all_L0 b.Params u ((b.Ops.length : Nat) : Int) l0 l k = .out false ∧ ¬ allV b l)
 | [], k => .inl ⟨rfl, fun v h => (by cases h)⟩
 | a :: l, k => by
  rw [m_ir_scope_all_L0]
  have ha := has_iff hu hp a b.Ops.length
  by_cases h : m_ir_scope_has b.Params u a ((b.Ops.length : Nat) : Int) = true
  · rw [if_pos h]
    rcases all_L0 l0 l (k + 1) with ⟨h1, h2⟩ | ⟨h1, h2⟩
    · refine .inl ⟨h1, fun v hv => ?_⟩
      rcases List.mem_cons.1 hv with rfl | hv
      · exact ha.1 h
      · exact h2 v hv
    · exact .inr ⟨h1, fun q => h2 fun v hv => q v (List.mem_cons_of_mem _ hv)⟩
  · rw [if_neg h]
    exact .inr ⟨rfl, fun q => h (ha.2 (q a (List.mem_cons_self ..)))⟩
include hu hp in
theorem all_iff (l : List Int) : m_ir_scope_all b.Params u ((b.Ops.length : Nat) : Int) l = true ↔ allV b l := by
 unfold m_ir_scope_all
 rcases all_L0 hu hp l l 0 with ⟨h1, h2⟩ | ⟨h1, h2⟩
 · rw [h1]; exact ⟨fun _ => h2, fun _ => rfl⟩
 · rw [h1]; exact ⟨fun h => Bool.noConfusion h, fun h => absurd h h2⟩
end
theorem hasV (b : GBlock List) (x : Int) : m_r06_Has (m_r06_Values b) x = true ↔ known b b.Ops.length x := by rw [has_dec, decide_eq_true_eq, mem_vals]
theorem term_L0 (c : GCode List) (b : GBlock List) : ∀ (l : List Int) (k : Nat), (m_r06_term_L0 c b l k = .go () ∧ allV b l) ∨ (m_r06_term_L0 c b l k = .out false ∧ ¬ allV b l)
 | [], k => .inl ⟨rfl, fun v h => (by cases h)⟩
 | a :: l, k => by
  rw [m_r06_term_L0]
  have ha := hasV b a
  by_cases h : m_r06_Has (m_r06_Values b) a = true
  · rw [if_pos h]
    rcases term_L0 c b l (k + 1) with ⟨h1, h2⟩ | ⟨h1, h2⟩
    · refine .inl ⟨h1, fun v hv => ?_⟩
      rcases List.mem_cons.1 hv with rfl | hv
      · exact ha.1 h
      · exact h2 v hv
    · exact .inr ⟨h1, fun q => h2 fun v hv => q v (List.mem_cons_of_mem _ hv)⟩
  · rw [if_neg h]
    exact .inr ⟨rfl, fun q => h (ha.2 (q a (List.mem_cons_self ..)))⟩
theorem term_L1 (c : GCode List) (b : GBlock List) : ∀ (l : List Int) (k : Nat), (m_r06_term_L1 c b l k = .go () ∧ allV b l) ∨ (m_r06_term_L1 c b l k = .out false ∧ ¬ allV b l)
 | [], k => .inl ⟨rfl, fun v h => (by cases h)⟩
 | a :: l, k => by
  rw [m_r06_term_L1]
  have ha := hasV b a
  by_cases h : m_r06_Has (m_r06_Values b) a = true
  · rw [if_pos h]
    rcases term_L1 c b l (k + 1) with ⟨h1, h2⟩ | ⟨h1, h2⟩
    · refine .inl ⟨h1, fun v hv => ?_⟩
      rcases List.mem_cons.1 hv with rfl | hv
      · exact ha.1 h
      · exact h2 v hv
    · exact .inr ⟨h1, fun q => h2 fun v hv => q v (List.mem_cons_of_mem _ hv)⟩
  · rw [if_neg h]
    exact .inr ⟨rfl, fun q => h (ha.2 (q a (List.mem_cons_self ..)))⟩
theorem edge_L0 (c : GCode List) (b : GBlock List) (e : GEdge List) (m : Int) : ∀ (l : List Int) (k : Nat), (m_r06_edge_L0 c e (m_r06_Values b) m l k = .go () ∧ allV b l) ∨ (m_r06_edge_L0 c e (m_r06_Values b) m l k = .out false ∧ ¬ allV b l)
 | [], k => .inl ⟨rfl, fun v h => (by cases h)⟩
 | a :: l, k => by
  rw [m_r06_edge_L0]
  have ha := hasV b a
  by_cases h : m_r06_Has (m_r06_Values b) a = true
  · rw [if_pos h]
    rcases edge_L0 c b e m l (k + 1) with ⟨h1, h2⟩ | ⟨h1, h2⟩
    · refine .inl ⟨h1, fun v hv => ?_⟩
      rcases List.mem_cons.1 hv with rfl | hv
      · exact ha.1 h
      · exact h2 v hv
    · exact .inr ⟨h1, fun q => h2 fun v hv => q v (List.mem_cons_of_mem _ hv)⟩
  · rw [if_neg h]
    exact .inr ⟨rfl, fun q => h (ha.2 (q a (List.mem_cons_self ..)))⟩
/-- an edge leads to a block that takes what it gives and m more -/
def eOk (c : GCode List) (e : GEdge List) (m : Int) : Prop := 1 ≤ e.Block ∧ e.Block < (c.Blocks.length : Nat) ∧ ((e.Args.length : Nat) : Int) + m = (c.Blocks[(e.Block).toNat]?.getD (⟨(0 : Int), [], (⟨(0 : Int), (0 : Int), (0 : Int), [], (⟨(⟨(0 : Int), []⟩ : (GEdge List)), (⟨(0 : Int), []⟩ : (GEdge List))⟩ : (GArr56 List))⟩ : (GTerm List))⟩ : (GBlock List))).Params
theorem edge_iff (c : GCode List) (b : GBlock List) (e : GEdge List) (m : Int) (hm : 0 ≤ m ∧ m ≤ 1) (hs : e.Args.length ≤ 140737488355328) : m_r06_edge c e (m_r06_Values b) m = true ↔ eOk c e m ∧ allV b e.Args := by
 unfold m_r06_edge eOk
 rw [wr_small (by omega) (by omega)]
 by_cases h1 : e.Block < 1
 · rw [if_pos h1]; exact ⟨fun h => Bool.noConfusion h, fun h => by omega⟩
 · rw [if_neg h1]
   by_cases h2 : ((c.Blocks.length : Nat) : Int) ≤ e.Block
   · rw [if_pos h2]; exact ⟨fun h => Bool.noConfusion h, fun h => by omega⟩
   · rw [if_neg h2]
     split
     · rename_i h3
       exact ⟨fun h => Bool.noConfusion h, fun h => absurd h.1.2.2 h3⟩
     · rename_i h3
       have h3 := Decidable.not_not.1 h3
       rcases edge_L0 c b e m e.Args 0 with ⟨h4, h5⟩ | ⟨h4, h5⟩
       · rw [h4]; exact ⟨fun _ => ⟨⟨by omega, by omega, h3⟩, h5⟩, fun _ => rfl⟩
       · rw [h4]; exact ⟨fun h => Bool.noConfusion h, fun h => absurd h.2 h5⟩
theorem rightEdge_iff (c : GCode List) (e : GEdge List) (k m : Int) (hm : m = if k = 3 then 1 else 0) : m_ir_rightEdge c e k = true ↔ eOk c e m := by
 unfold m_ir_rightEdge eOk
 by_cases h1 : e.Block < 1
 · rw [if_pos h1]; exact ⟨fun h => Bool.noConfusion h, fun h => by omega⟩
 · rw [if_neg h1]
   by_cases h2 : ((c.Blocks.length : Nat) : Int) ≤ e.Block
   · rw [if_pos h2]; exact ⟨fun h => Bool.noConfusion h, fun h => by omega⟩
   · rw [if_neg h2, decide_eq_true_eq]
     have e1 : (if k = (3 : Int) then (((e.Args.length : Nat) : Int) + (1 : Int)) else ((e.Args.length : Nat) : Int)) = ((e.Args.length : Nat) : Int) + m := by
      subst hm
      split <;> simp
     rw [e1]
     exact ⟨fun h => ⟨by omega, by omega, h⟩, fun h => h.2.2⟩
theorem none_iff (e : GEdge List) : m_r06_none e = true ↔ e.Block = -1 ∧ e.Args = [] := by
 unfold m_r06_none
 split
 · rename_i h; simp [h]
 · rename_i h; simp [h]
theorem absent_eq (e : GEdge List) : m_ir_absent e = m_r06_none e := rfl
theorem none_all {b : GBlock List} {e : GEdge List} (h : m_r06_none e = true) : allV b e.Args := by
 rw [((none_iff e).1 h).2]; exact fun v h => (by cases h)
end Go.Proofs.Ytbpccmnalhdpmaa
namespace Go.Proofs.Ytbpccmnalhdpmaa
open Go.RowKit Go.Fw
section
variable (c : GCode List) (p : Int) (d : List (Int × Int)) (t : GTerm List) (n : Int) (x y : GEdge List)
theorem rt_1 : m_ir_rightTerm_L3 c p d t n 1 [x, y] 0 = if (m_ir_rightEdge c x t.Kind && m_r06_none y) = true then .go () else .out false := by
 cases h1 : m_ir_rightEdge c x t.Kind <;> cases h2 : m_r06_none y <;> simp [m_ir_rightTerm_L3, absent_eq, h1, h2]
theorem rt_2 : m_ir_rightTerm_L3 c p d t n 2 [x, y] 0 = if (m_ir_rightEdge c x t.Kind && m_ir_rightEdge c y t.Kind) = true then .go () else .out false := by
 cases h1 : m_ir_rightEdge c x t.Kind <;> cases h2 : m_ir_rightEdge c y t.Kind <;> simp [m_ir_rightTerm_L3, absent_eq, h1, h2]
theorem rt_0 : m_ir_rightTerm_L3 c p d t n 0 [x, y] 0 = if (m_r06_none x && m_r06_none y) = true then .go () else .out false := by
 cases h1 : m_r06_none x <;> cases h2 : m_r06_none y <;> simp [m_ir_rightTerm_L3, absent_eq, h1, h2]
end
theorem el_ite (q : Bool) : (if q = true then (.go () : Lp Unit Bool) else .out false).el (fun _ => true) (fun o => o) = q := by cases q <;> rfl
theorem within7 (n : Int) : m_ir_within n 7 = true ↔ 0 ≤ n ∧ n < 8 := by rw [within_iff]; omega
theorem term_eq (c : GCode List) (b : GBlock List) {u : List (Int × Int)} (hu : MapOk b b.Ops.length u) (hp : 0 ≤ b.Params ∧ b.Params ≤ 999) (hs0 : b.Term.To.e0.Args.length ≤ 140737488355328) (hs1 : b.Term.To.e1.Args.length ≤ 140737488355328) :
   m_ir_rightTerm c b.Params u b.Term ((b.Ops.length : Nat) : Int) = m_r06_term c b := by
 have qa := all_iff hu hp b.Term.Args
 have q0 := all_iff hu hp b.Term.To.e0.Args
 have q1 := all_iff hu hp b.Term.To.e1.Args
 have hA := has_iff hu hp b.Term.A b.Ops.length
 have hB := hasV b b.Term.A
 have hAB : m_r06_Has (m_r06_Values b) b.Term.A = m_ir_scope_has b.Params u b.Term.A ((b.Ops.length : Nat) : Int) := Bool.eq_iff_iff.2 (by rw [hA, hB])
 have e00 := edge_iff c b b.Term.To.e0 0 (by omega) hs0
 have e01 := edge_iff c b b.Term.To.e0 1 (by omega) hs0
 have e10 := edge_iff c b b.Term.To.e1 0 (by omega) hs1
 have e11 := edge_iff c b b.Term.To.e1 1 (by omega) hs1
 have r00 := rightEdge_iff c b.Term.To.e0 b.Term.Kind 0
 have r01 := rightEdge_iff c b.Term.To.e0 b.Term.Kind 1
 have r10 := rightEdge_iff c b.Term.To.e1 b.Term.Kind 0
 have r11 := rightEdge_iff c b.Term.To.e1 b.Term.Kind 1
 have n0 := none_all (b := b) (e := b.Term.To.e0)
 have n1 := none_all (b := b) (e := b.Term.To.e1)
 have w7 := within7 b.Term.N
 have t0 := term_L0 c b b.Term.Args 0
 have t1 := term_L1 c b b.Term.Args 0
 have hP : m_ir_rightTerm c b.Params u b.Term ((b.Ops.length : Nat) : Int) = (m_ir_scope_all b.Params u ((b.Ops.length : Nat) : Int) b.Term.Args && m_ir_scope_all b.Params u ((b.Ops.length : Nat) : Int) b.Term.To.e0.Args && m_ir_scope_all b.Params u ((b.Ops.length : Nat) : Int) b.Term.To.e1.Args &&
     (if b.Term.Kind = 1 then (decide (b.Term.A = 0) && decide (b.Term.N = 0) && decide (b.Term.Args.length = 0) && (m_ir_rightEdge c b.Term.To.e0 b.Term.Kind && m_r06_none b.Term.To.e1))
      else if b.Term.Kind = 2 then (m_ir_scope_has b.Params u b.Term.A ((b.Ops.length : Nat) : Int) && decide (b.Term.N = 0) && decide (b.Term.Args.length = 0) && (m_ir_rightEdge c b.Term.To.e0 b.Term.Kind && m_ir_rightEdge c b.Term.To.e1 b.Term.Kind))
      else if b.Term.Kind = 3 then (decide (b.Term.A = 0) && m_ir_within b.Term.N 7 && decide (b.Term.Args.length ≤ 4) && (m_ir_rightEdge c b.Term.To.e0 b.Term.Kind && (m_r06_none b.Term.To.e1 || m_ir_rightEdge c b.Term.To.e1 b.Term.Kind)))
      else if b.Term.Kind = 4 ∨ b.Term.Kind = 5 then (m_ir_scope_has b.Params u b.Term.A ((b.Ops.length : Nat) : Int) && decide (b.Term.N = 0) && decide (b.Term.Args.length = 0) && (m_r06_none b.Term.To.e0 && m_r06_none b.Term.To.e1))
      else if b.Term.Kind = 6 then (decide (b.Term.A = 0) && m_ir_within b.Term.N 7 && decide (b.Term.Args.length ≤ 4) && (m_r06_none b.Term.To.e0 && m_r06_none b.Term.To.e1))
      else false)) := by
   have a1 := rt_1 c b.Params u b.Term ((b.Ops.length : Nat) : Int) b.Term.To.e0 b.Term.To.e1
   have a2 := rt_2 c b.Params u b.Term ((b.Ops.length : Nat) : Int) b.Term.To.e0 b.Term.To.e1
   have a0 := rt_0 c b.Params u b.Term ((b.Ops.length : Nat) : Int) b.Term.To.e0 b.Term.To.e1
   unfold m_ir_rightTerm m_ir_rightTerm_J0 m_ir_rightTerm_J1 m_ir_rightTerm_J2
   rw [show m_ir_absent = m_r06_none from rfl]
   clear qa q0 q1 hA hB hAB e00 e01 e10 e11 r00 r01 r10 r11 n0 n1 w7 t0 t1
   by_cases k1 : b.Term.Kind = 1
   · simp only [k1, if_true, Lp.el_go] at *
     grind [Lp.el]
   · by_cases k2 : b.Term.Kind = 2
     · simp only [k2, Lp.el_go] at *
       grind [Lp.el]
     · by_cases k3 : b.Term.Kind = 3
       · simp only [k3, Lp.el_go] at *
         grind [Lp.el]
       · by_cases k4 : b.Term.Kind = 4 ∨ b.Term.Kind = 5
         · rcases k4 with k4 | k4
           · simp only [k4, Lp.el_go] at *
             grind [Lp.el]
           · simp only [k4, Lp.el_go] at *
             grind [Lp.el]
         · by_cases k6 : b.Term.Kind = 6
           · simp only [k6, Lp.el_go] at *
             generalize m_ir_scope_all b.Params u ((b.Ops.length : Nat) : Int) b.Term.Args = SA at *
             generalize m_ir_scope_all b.Params u ((b.Ops.length : Nat) : Int) b.Term.To.e0.Args = S0 at *
             generalize m_ir_scope_all b.Params u ((b.Ops.length : Nat) : Int) b.Term.To.e1.Args = S1 at *
             generalize m_ir_within b.Term.N 7 = W7 at *
             have hL : ((4 : Int) < ((b.Term.Args.length : Nat) : Int)) ↔ ¬ b.Term.Args.length ≤ 4 := by omega
             cases SA <;> cases S0 <;> cases S1 <;> cases W7 <;> by_cases hA0 : b.Term.A = 0 <;> by_cases hl : b.Term.Args.length ≤ 4 <;> simp [hA0, hL, hl, Lp.el] <;> grind [Lp.el]
           · grind [Lp.el]
 rw [hP]
 clear hP
 unfold m_r06_term
 rw [hAB]
 generalize m_ir_scope_all b.Params u ((b.Ops.length : Nat) : Int) b.Term.Args = SA at *
 generalize m_ir_scope_all b.Params u ((b.Ops.length : Nat) : Int) b.Term.To.e0.Args = S0 at *
 generalize m_ir_scope_all b.Params u ((b.Ops.length : Nat) : Int) b.Term.To.e1.Args = S1 at *
 generalize allV b b.Term.Args = VA at *
 generalize allV b b.Term.To.e0.Args = V0 at *
 generalize allV b b.Term.To.e1.Args = V1 at *
 generalize m_r06_none b.Term.To.e0 = N0 at *
 generalize m_r06_none b.Term.To.e1 = N1 at *
 generalize m_r06_edge c b.Term.To.e0 (m_r06_Values b) 0 = E00 at *
 generalize m_r06_edge c b.Term.To.e0 (m_r06_Values b) 1 = E01 at *
 generalize m_r06_edge c b.Term.To.e1 (m_r06_Values b) 0 = E10 at *
 generalize m_r06_edge c b.Term.To.e1 (m_r06_Values b) 1 = E11 at *
 generalize m_ir_rightEdge c b.Term.To.e0 b.Term.Kind = R0 at *
 generalize m_ir_rightEdge c b.Term.To.e1 b.Term.Kind = R1 at *
 generalize eOk c b.Term.To.e0 0 = O00 at *
 generalize eOk c b.Term.To.e0 1 = O01 at *
 generalize eOk c b.Term.To.e1 0 = O10 at *
 generalize eOk c b.Term.To.e1 1 = O11 at *
 generalize m_ir_scope_has b.Params u b.Term.A ((b.Ops.length : Nat) : Int) = HA at *
 generalize m_ir_within b.Term.N 7 = W7 at *
 generalize m_r06_term_L0 c b b.Term.Args 0 = T0 at *
 generalize m_r06_term_L1 c b b.Term.Args 0 = T1 at *
 generalize b.Term.Args.length = LA at *
 generalize b.Term.Kind = K at *
 generalize b.Term.N = NN at *
 generalize b.Term.A = AA at *
 clear hs0 hs1 hu hA hB hAB
 by_cases k3 : K = 3
 · subst k3
   simp only [if_true, forall_const] at *
   rcases t0 with ⟨rfl, t0⟩ | ⟨rfl, t0⟩ <;> rcases t1 with ⟨rfl, t1⟩ | ⟨rfl, t1⟩ <;> grind (splits := 30) [Lp.el]
 · rw [if_neg k3] at r00 r01 r10 r11
   clear r01 r11 e01 e11 t0
   have r00 := r00 rfl
   have r10 := r10 rfl
   simp only [if_neg k3]
   by_cases k1 : K = 1
   · subst k1
     rcases t1 with ⟨rfl, t1⟩ | ⟨rfl, t1⟩ <;> grind (splits := 30) [Lp.el]
   · by_cases k2 : K = 2
     · subst k2
       rcases t1 with ⟨rfl, t1⟩ | ⟨rfl, t1⟩ <;> grind (splits := 30) [Lp.el]
     · by_cases k4 : K = 4
       · subst k4
         rcases t1 with ⟨rfl, t1⟩ | ⟨rfl, t1⟩ <;> grind (splits := 30) [Lp.el]
       · by_cases k5 : K = 5
         · subst k5
           rcases t1 with ⟨rfl, t1⟩ | ⟨rfl, t1⟩ <;> grind (splits := 30) [Lp.el]
         · by_cases k6 : K = 6
           · subst k6
             rcases t1 with ⟨rfl, t1⟩ | ⟨rfl, t1⟩ <;> grind (splits := 30) [Lp.el]
           · rcases t1 with ⟨rfl, t1⟩ | ⟨rfl, t1⟩ <;> simp [k1, k2, k4, k5, k6, Lp.el]
end Go.Proofs.Ytbpccmnalhdpmaa
namespace Go.Proofs.Ytbpccmnalhdpmaa
open Go.RowKit Go.Fw
/-! contexts -/
def ctxOk (k : Nat) (x : GContext) : Prop := 0 ≤ x.Func ∧ x.Func < 8 ∧ (k = 0 → x.Parent = -1 ∧ x.Stmt = -1) ∧ (0 < k → 0 ≤ x.Parent ∧ x.Parent < (k : Nat) ∧ 0 ≤ x.Stmt ∧ x.Stmt ≤ 9999)
def ctxAll : List GContext → Nat → Prop
 | [], _ => True
 | x :: l, k => ctxOk k x ∧ ctxAll l (k + 1)
theorem heads_L0 (c : GCode List) : ∀ (l : List GContext) (k : Nat), (m_r06_heads_L0 c l k = .go () ∧ ctxAll l k) ∨ (m_r06_heads_L0 c l k = .out false ∧ ¬ ctxAll l k)
 | [], k => .inl ⟨rfl, trivial⟩
 | x :: l, k => by
  rw [m_r06_heads_L0]
  split
  · rename_i h
    refine .inr ⟨rfl, fun q => ?_⟩
    simp only [Bool.or_eq_true, Bool.and_eq_true, decide_eq_true_eq] at h
    obtain ⟨⟨q1, q2, q3, q4⟩, _⟩ := q
    by_cases hk : k = 0
    · have := q3 hk
      omega
    · have := q4 (by omega)
      omega
  · rename_i h
    simp only [Bool.or_eq_true, Bool.and_eq_true, decide_eq_true_eq] at h
    have hok : ctxOk k x := ⟨by omega, by omega, fun hk => ⟨by omega, by omega⟩, fun hk => ⟨by omega, by omega, by omega, by omega⟩⟩
    rcases heads_L0 c l (k + 1) with ⟨h1, h2⟩ | ⟨h1, h2⟩
    · exact .inl ⟨h1, hok, h2⟩
    · exact .inr ⟨h1, fun q => h2 q.2⟩
theorem ctx_L0 (l0 : List GContext) : ∀ (l : List GContext) (k : Nat), 0 < k → (m_ir_rightContexts_L0 l0 l k = .go () ∧ ctxAll l k) ∨ (m_ir_rightContexts_L0 l0 l k = .out false ∧ ¬ ctxAll l k)
 | [], k, _ => .inl ⟨rfl, trivial⟩
 | x :: l, k, hk => by
  rw [m_ir_rightContexts_L0]
  have wf := within_iff x.Func 7
  have wp := within_iff x.Parent (((k : Nat) : Int) - 1)
  have ws := within_iff x.Stmt 9999
  by_cases h : m_ir_within x.Func 7 = true
  · rw [if_pos h]
    rw [wf] at h
    split
    · rename_i h2
      refine .inr ⟨rfl, fun q => ?_⟩
      simp only [Bool.or_eq_true, Bool.and_eq_true, Bool.not_eq_true', decide_eq_true_eq, ← Bool.not_eq_true, wp, ws] at h2
      have := q.1.2.2.2 hk
      omega
    · rename_i h2
      simp only [Bool.or_eq_true, Bool.and_eq_true, Bool.not_eq_true', decide_eq_true_eq, ← Bool.not_eq_true, wp, ws] at h2
      have hok : ctxOk k x := ⟨by omega, by omega, fun h0 => by omega, fun _ => ⟨by omega, by omega, by omega, by omega⟩⟩
      rcases ctx_L0 l0 l (k + 1) (by omega) with ⟨h3, h4⟩ | ⟨h3, h4⟩
      · exact .inl ⟨h3, hok, h4⟩
      · exact .inr ⟨h3, fun q => h4 q.2⟩
  · rw [if_neg h]
    rw [wf] at h
    exact .inr ⟨rfl, fun q => h ⟨q.1.1, by have := q.1.2.1; omega⟩⟩
theorem ctx_iff (l : List GContext) : m_ir_rightContexts l = true ↔ l ≠ [] ∧ ctxAll l 0 := by
 unfold m_ir_rightContexts
 cases l with
 | nil =>
  have h0 : ((([] : List GContext).length : Nat) : Int) = 0 := rfl
  rw [if_pos h0]; exact ⟨fun h => Bool.noConfusion h, fun h => absurd rfl h.1⟩
 | cons x l =>
  rw [if_neg (by simp; omega)]
  have wf := within_iff x.Func 7
  show (if x.Parent ≠ -1 then false else if x.Stmt ≠ -1 then false else _) = true ↔ _
  by_cases h1 : x.Parent ≠ -1
  · rw [if_pos h1]
    exact ⟨fun h => Bool.noConfusion h, fun h => absurd (h.2.1.2.2.1 rfl).1 h1⟩
  · rw [if_neg h1]
    by_cases h2 : x.Stmt ≠ -1
    · rw [if_pos h2]
      exact ⟨fun h => Bool.noConfusion h, fun h => absurd (h.2.1.2.2.1 rfl).2 h2⟩
    · rw [if_neg h2, m_ir_rightContexts_L0]
      by_cases h : m_ir_within x.Func 7 = true
      · rw [if_pos h]
        rw [wf] at h
        rw [if_neg (by simp)]
        have hok : ctxOk 0 x := ⟨h.1, by omega, fun _ => ⟨by omega, by omega⟩, fun h0 => by omega⟩
        rcases ctx_L0 (x :: l) l 1 (by omega) with ⟨h3, h4⟩ | ⟨h3, h4⟩
        · rw [h3]; exact ⟨fun _ => ⟨by simp, hok, h4⟩, fun _ => rfl⟩
        · rw [h3]; exact ⟨fun h => Bool.noConfusion h, fun q => absurd q.2.2 h4⟩
      · rw [if_neg h]
        rw [wf] at h
        exact ⟨fun h => Bool.noConfusion h, fun q => absurd ⟨q.2.1.1, by have := q.2.1.2.1; omega⟩ h⟩
/-! objects -/
def objOk (c : GCode List) (k : Nat) (x : GObject) : Prop := (0 ≤ x.Ctx ∧ x.Ctx < (c.Contexts.length : Nat) ∧ 0 ≤ x.Var ∧ x.Var < 24 ∧ 1 ≤ x.Words ∧ x.Words ≤ 8) ∧ ∀ (j : Nat) (y : GObject), j < k → c.Objects[j]? = some y → ¬ (y.Ctx = x.Ctx ∧ y.Var = x.Var)
theorem heads_L2 (c : GCode List) (x : GObject) (k : Nat) (hk : k ≤ c.Objects.length) : ∀ (n : Nat) (i : Nat), i + n = k → (m_r06_heads_L2 c x k n ((i : Nat) : Int) = .go () ∧ ∀ (j : Nat) (y : GObject), i ≤ j → j < k → c.Objects[j]? = some y → ¬ (y.Ctx = x.Ctx ∧ y.Var = x.Var)) ∨
  (m_r06_heads_L2 c x k n ((i : Nat) : Int) = .out false ∧ ∃ (j : Nat) (y : GObject), j < k ∧ c.Objects[j]? = some y ∧ (y.Ctx = x.Ctx ∧ y.Var = x.Var))
 | 0, i, h => .inl ⟨rfl, fun j y h1 h2 => by omega⟩
 | n + 1, i, h => by
  have hi : i < c.Objects.length := by omega
  have hg : c.Objects[i]? = some c.Objects[i] := List.getElem?_eq_getElem hi
  have e : (c.Objects[(((i : Nat) : Int)).toNat]?.getD (⟨(0 : Int), (0 : Int), (0 : Int)⟩ : GObject)) = c.Objects[i] := by rw [Int.toNat_natCast, hg]; rfl
  rw [m_r06_heads_L2, e]
  have ih := heads_L2 c x k hk n (i + 1) (by omega)
  have e2 : (((i : Nat) : Int) + 1) = ((i + 1 : Nat) : Int) := rfl
  rw [e2]
  have step : ¬ (c.Objects[i].Ctx = x.Ctx ∧ c.Objects[i].Var = x.Var) → (m_r06_heads_L2 c x k n ((i + 1 : Nat) : Int) = .go () ∧ ∀ (j : Nat) (y : GObject), i ≤ j → j < k → c.Objects[j]? = some y → ¬ (y.Ctx = x.Ctx ∧ y.Var = x.Var)) ∨
      (m_r06_heads_L2 c x k n ((i + 1 : Nat) : Int) = .out false ∧ ∃ (j : Nat) (y : GObject), j < k ∧ c.Objects[j]? = some y ∧ (y.Ctx = x.Ctx ∧ y.Var = x.Var)) := fun hne => by
    rcases ih with ⟨h1, h2⟩ | h1
    · refine .inl ⟨h1, fun j y q1 q2 q3 => ?_⟩
      rcases Nat.lt_or_ge i j with q | q
      · exact h2 j y q q2 q3
      · obtain rfl : j = i := by omega
        rw [hg] at q3; cases q3; exact hne
    · exact .inr h1
  by_cases h1 : c.Objects[i].Ctx = x.Ctx
  · rw [if_pos h1]
    by_cases h2 : c.Objects[i].Var = x.Var
    · rw [if_pos h2]
      exact .inr ⟨rfl, i, _, by omega, hg, h1, h2⟩
    · rw [if_neg h2]; exact step fun q => h2 q.2
  · rw [if_neg h1]; exact step fun q => h1 q.1
theorem heads_L1 (c : GCode List) : ∀ (l : List GObject) (k : Nat), c.Objects.drop k = l → (m_r06_heads_L1 c l k = .go () ∧ ∀ (j : Nat) (x : GObject), k ≤ j → c.Objects[j]? = some x → objOk c j x) ∨ (m_r06_heads_L1 c l k = .out false ∧ ∃ (j : Nat) (x : GObject), c.Objects[j]? = some x ∧ ¬ objOk c j x)
 | [], k, hl => by
  have hk : c.Objects.length ≤ k := by simpa using hl
  exact .inl ⟨rfl, fun j x h1 h2 => by have := (List.getElem?_eq_some_iff.1 h2).1; omega⟩
 | x :: l, k, hl => by
  obtain ⟨h1, h2⟩ := drop_get hl
  have hk := (List.getElem?_eq_some_iff.1 h1).1
  rw [m_r06_heads_L1]
  split
  · rename_i h
    simp only [Bool.or_eq_true, decide_eq_true_eq] at h
    exact .inr ⟨rfl, k, x, h1, fun q => by have := q.1; omega⟩
  · rename_i h
    simp only [Bool.or_eq_true, decide_eq_true_eq] at h
    have e0 : (((k : Nat) : Int) - 0).toNat = k := by omega
    rw [e0]
    rcases heads_L2 c x k (by omega) k 0 (by omega) with ⟨h3, h4⟩ | ⟨h3, j, y, h4, h5, h6⟩
    · have h3 : m_r06_heads_L2 c x k k 0 = .go () := h3
      rw [h3, Lp.el_go]
      have hok : objOk c k x := ⟨⟨by omega, by omega, by omega, by omega, by omega, by omega⟩, fun j y q1 q2 => h4 j y (Nat.zero_le _) q1 q2⟩
      rcases heads_L1 c l (k + 1) h2 with ⟨h5, h6⟩ | h5
      · refine .inl ⟨h5, fun j y q1 q2 => ?_⟩
        rcases Nat.lt_or_ge k j with q | q
        · exact h6 j y q q2
        · obtain rfl : j = k := by omega
          rw [h1] at q2; cases q2; exact hok
      · exact .inr h5
    · have h3 : m_r06_heads_L2 c x k k 0 = .out false := h3
      rw [h3, Lp.el_out]
      exact .inr ⟨rfl, k, x, h1, fun q => q.2 j y h4 h5 h6⟩
def SeenOk (c : GCode List) (k : Nat) (s : List ((Int × Int × Int) × Bool)) : Prop := ∀ a b v, mget s (a, b, 0) = some v ↔ v = true ∧ ∃ (j : Nat) (y : GObject), j < k ∧ c.Objects[j]? = some y ∧ y.Ctx = a ∧ y.Var = b
theorem objs_L0 (c : GCode List) : ∀ (l : List GObject) (k : Nat) (s : List ((Int × Int × Int) × Bool)), c.Objects.drop k = l → SeenOk c k s → ((∃ t, m_ir_rightObjects_L0 c l k s = .go t) ∧ ∀ (j : Nat) (x : GObject), k ≤ j → c.Objects[j]? = some x → objOk c j x) ∨ (m_ir_rightObjects_L0 c l k s = .out false ∧ ∃ (j : Nat) (x : GObject), c.Objects[j]? = some x ∧ ¬ objOk c j x)
 | [], k, s, hl, hs => by
  have hk : c.Objects.length ≤ k := by simpa using hl
  exact .inl ⟨⟨s, rfl⟩, fun j x h1 h2 => by have := (List.getElem?_eq_some_iff.1 h2).1; omega⟩
 | x :: l, k, s, hl, hs => by
  obtain ⟨h1, h2⟩ := drop_get hl
  have wc := within_iff x.Ctx (((c.Contexts.length : Nat) : Int) - 1)
  have wv := within_iff x.Var 23
  have hseen : (mget s (x.Ctx, x.Var, 0)).getD false = true ↔ ∃ (j : Nat) (y : GObject), j < k ∧ c.Objects[j]? = some y ∧ y.Ctx = x.Ctx ∧ y.Var = x.Var := by
    have := hs x.Ctx x.Var
    cases hm : mget s (x.Ctx, x.Var, 0) with
    | none =>
      refine ⟨fun h => Bool.noConfusion h, fun h => ?_⟩
      rw [(this true).2 ⟨rfl, h⟩] at hm; cases hm
    | some v =>
      have h3 := (this v).1 hm
      exact ⟨fun _ => h3.2, fun _ => h3.1⟩
  rw [m_ir_rightObjects_L0]
  split
  · rename_i h
    simp only [Bool.or_eq_true, Bool.not_eq_true', decide_eq_true_eq, ← Bool.not_eq_true, wc, wv, hseen] at h
    refine .inr ⟨rfl, k, x, h1, fun q => ?_⟩
    rcases h with h | ⟨j, y, q1, q2, q3⟩
    · have := q.1; omega
    · exact q.2 j y q1 q2 q3
  · rename_i h
    simp only [Bool.or_eq_true, Bool.not_eq_true', decide_eq_true_eq, ← Bool.not_eq_true, wc, wv, hseen] at h
    have hn : ¬ ∃ (j : Nat) (y : GObject), j < k ∧ c.Objects[j]? = some y ∧ y.Ctx = x.Ctx ∧ y.Var = x.Var := fun q => h (.inr q)
    have hr : ¬ ((((¬ (0 ≤ x.Ctx ∧ x.Ctx ≤ ((c.Contexts.length : Nat) : Int) - 1)) ∨ ¬ (0 ≤ x.Var ∧ x.Var ≤ 23)) ∨ x.Words < 1) ∨ 8 < x.Words) := fun q => h (.inl q)
    have hok : objOk c k x := ⟨⟨by omega, by omega, by omega, by omega, by omega, by omega⟩, fun j y q1 q2 q3 => hn ⟨j, y, q1, q2, q3⟩⟩
    have hs' : SeenOk c (k + 1) (mput s (x.Ctx, x.Var, 0) true) := fun a b v => by
      rw [mget_put]
      by_cases he : ((a, b, (0 : Int)) : Int × Int × Int) = (x.Ctx, x.Var, 0)
      · rw [if_pos he]
        simp only [Prod.mk.injEq, and_true] at he
        obtain ⟨rfl, rfl⟩ := he
        constructor
        · intro q; injection q with q
          exact ⟨q.symm, k, x, by omega, h1, rfl, rfl⟩
        · rintro ⟨rfl, _⟩; rfl
      · rw [if_neg he, hs]
        constructor
        · rintro ⟨q, j, y, q1, q2⟩
          exact ⟨q, j, y, by omega, q2⟩
        · rintro ⟨q, j, y, q1, q2, q3, q4⟩
          rcases Nat.lt_or_ge j k with r | r
          · exact ⟨q, j, y, r, q2, q3, q4⟩
          · obtain rfl : j = k := by omega
            rw [h1] at q2; cases q2
            exact absurd (by rw [q3, q4]) he
    rcases objs_L0 c l (k + 1) _ h2 hs' with ⟨h5, h6⟩ | h5
    · refine .inl ⟨h5, fun j y q1 q2 => ?_⟩
      rcases Nat.lt_or_ge k j with q | q
      · exact h6 j y q q2
      · obtain rfl : j = k := by omega
        rw [h1] at q2; cases q2; exact hok
    · exact .inr h5
theorem heads_eq (c : GCode List) : m_r06_heads c = (m_ir_rightHead c && m_ir_rightContexts c.Contexts && m_ir_rightObjects c) := by
 have hc := ctx_iff c.Contexts
 have wp := within_iff c.Params 4
 unfold m_r06_heads m_ir_rightHead m_ir_rightObjects
 by_cases h1 : c.Params < 0
 · rw [if_pos h1, if_neg (by rw [wp]; omega)]; rfl
 · rw [if_neg h1]
   by_cases h2 : 4 < c.Params
   · rw [if_pos h2, if_neg (by rw [wp]; omega)]; rfl
   · rw [if_neg h2, if_pos (wp.2 ⟨by omega, by omega⟩)]
     by_cases h3 : ((c.Blocks.length : Nat) : Int) = 0
     · rw [if_pos h3, if_neg (by omega)]; rfl
     · have h3' : (0 : Int) < ((c.Blocks.length : Nat) : Int) := by omega
       rw [if_neg h3, if_pos h3']
       split
       · rename_i h4
         rw [decide_eq_false h4]; rfl
       · rename_i h4
         rw [decide_eq_true (Decidable.not_not.1 h4), Bool.true_and]
         by_cases h5 : ((c.Contexts.length : Nat) : Int) = 0
         · rw [if_pos h5]
           have : m_ir_rightContexts c.Contexts = false := Bool.eq_false_iff.2 fun q => (hc.1 q).1 (List.length_eq_zero_iff.1 (by omega))
           rw [this]; rfl
         · rw [if_neg h5]
           have hne : c.Contexts ≠ [] := fun q => h5 (by rw [q]; rfl)
           rcases heads_L0 c c.Contexts 0 with ⟨h6, h7⟩ | ⟨h6, h7⟩
           · rw [h6, Lp.el_go, hc.2 ⟨hne, h7⟩, Bool.true_and]
             rcases heads_L1 c c.Objects 0 rfl with ⟨h8, h9⟩ | ⟨h8, j, x, h9, h10⟩ <;> rcases objs_L0 c c.Objects 0 [] rfl (fun a b v => ⟨fun h => (by cases h), fun ⟨_, j, y, h, _⟩ => absurd h (by omega)⟩) with ⟨⟨t, h11⟩, h12⟩ | ⟨h11, j', x', h12, h13⟩
             · rw [h8, h11]; rfl
             · exact absurd (h9 j' x' (Nat.zero_le _) h12) h13
             · exact absurd (h12 j x (Nat.zero_le _) h9) h10
             · rw [h8, h11]; rfl
           · rw [h6, Lp.el_out]
             have : m_ir_rightContexts c.Contexts = false := Bool.eq_false_iff.2 fun q => h7 (hc.1 q).2
             rw [this]; rfl
/-- what memory cannot hold more of -/
def Slim (c : GCode List) : Prop := ∀ b ∈ c.Blocks, b.Term.To.e0.Args.length ≤ 140737488355328 ∧ b.Term.To.e1.Args.length ≤ 140737488355328
theorem head_params {c : GCode List} (h : m_ir_rightHead c = true) : 0 ≤ c.Params ∧ c.Params ≤ 4 := by
 unfold m_ir_rightHead at h
 by_cases h1 : m_ir_within c.Params 4 = true
 · exact (within_iff _ _).1 h1
 · rw [if_neg h1] at h; cases h
theorem all_okB (c : GCode List) (hc : 0 ≤ c.Params ∧ c.Params ≤ 4) : ∀ (l : List (GBlock List)), (∀ b ∈ l, b.Term.To.e0.Args.length ≤ 140737488355328 ∧ b.Term.To.e1.Args.length ≤ 140737488355328) → l.all (okB c) = (l.all (fun b => m_ir_within b.Params 999) && l.all (m_ir_rightBlock c))
 | [], _ => rfl
 | b :: l, hs => by
  rw [List.all_cons, List.all_cons, List.all_cons, all_okB c hc l (fun x hx => hs x (List.mem_cons_of_mem _ hx))]
  have wp := within_iff b.Params 999
  have key : okB c b = (m_ir_within b.Params 999 && m_ir_rightBlock c b) := by
   unfold okB
   by_cases h : m_ir_within b.Params 999 = true
   · have h' := wp.1 h
     have a1 : ¬ b.Params < 0 := by omega
     have a2 : ¬ 999 < b.Params := by omega
     rw [h]
     simp only [a1, a2, decide_false, Bool.false_or, Bool.true_and]
     rcases block_eq c b h' hc with ⟨h1, u, h2, h3⟩ | ⟨h1, h2⟩
     · rw [h1, h3, term_eq c b h2 h' (hs b (List.mem_cons_self ..)).1 (hs b (List.mem_cons_self ..)).2]
       cases m_r06_term c b <;> rfl
     · rw [h1, h2]; rfl
   · have hf : m_ir_within b.Params 999 = false := Bool.eq_false_iff.2 h
     rw [wp] at h
     rw [hf, Bool.false_and]
     by_cases a1 : b.Params < 0
     · simp [a1]
     · have a2 : 999 < b.Params := by omega
       simp [a2]
  rw [key]
  cases m_ir_within b.Params 999 <;> cases m_ir_rightBlock c b <;> cases l.all (fun b => m_ir_within b.Params 999) <;> cases l.all (m_ir_rightBlock c) <;> rfl
theorem ops_count (c : GCode List) : ∀ (l : List (GBlock List)) (k : Nat) (s : Int), m_r06_Ops_L0 c l k s = .go (l.foldl (fun s b => wr (s + ((b.Ops.length : Nat) : Int))) s)
 | [], k, s => rfl
 | b :: l, k, s => by rw [m_r06_Ops_L0, ops_count c l (k + 1)]; rfl
theorem checkCode_eq (c : GCode List) (hs : Slim c) : m_ir_CheckCode c = m_r06_CheckCode c := by
 rw [ir_chk, r06_chk, heads_eq]
 unfold m_r06_Ops
 rw [ops_count, Lp.el_go]
 cases h1 : m_ir_rightHead c with
 | false => rfl
 | true =>
  rw [all_okB c (head_params h1) c.Blocks hs]
end Go.Proofs.Ytbpccmnalhdpmaa
