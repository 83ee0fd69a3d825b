/- What the two CheckCode say, in plain words (first part). -/
import Derived.Test.YtbpccmnalhdpmaaGe
import Derived.Test.YtbpccmnalhdpmaaGi
set_option linter.unusedVariables false
set_option linter.unusedSimpArgs false
set_option maxRecDepth 4000
namespace Go.Proofs.Ytbpccmnalhdpmaa
open Go.RowKit Go.Fw

def okB (c : GCode List) (b : GBlock List) : Bool := (!(((((decide (b.Params < (0 : Int))) || (decide ((999 : Int) < b.Params))) || (!(m_r06_ops c b))) || (!(m_r06_term c b)))))
theorem r06_L0 (c : GCode List) : ∀ (l : List (GBlock List)) (k : Nat), m_r06_CheckCode_L0 c l k = bif l.all (okB c) then .go () else .out 4
  | [], k => rfl
  | b :: l, k => by
    rw [m_r06_CheckCode_L0, List.all_cons, r06_L0 c l (k + 1)]
    unfold okB
    by_cases h : ((((decide (b.Params < (0 : Int))) || (decide ((999 : Int) < b.Params))) || (!(m_r06_ops c b))) || (!(m_r06_term c b))) = true
    · rw [if_pos h, h]; rfl
    · rw [if_neg h, Bool.eq_false_iff.2 h]; rfl
def limit (c : GCode List) (n : Int) : Bool := ((((decide ((400 : Int) < ((c.Blocks.length : Nat) : Int))) || (decide ((6000 : Int) < n))) || (decide ((64 : Int) < ((c.Contexts.length : Nat) : Int)))) || (decide ((64 : Int) < ((c.Objects.length : Nat) : Int))))
theorem r06_chk (c : GCode List) : m_r06_CheckCode c = bif limit c (m_r06_Ops c) then 5 else bif (m_r06_heads c && c.Blocks.all (okB c)) then 0 else 4 := by
  unfold m_r06_CheckCode
  rw [r06_L0]
  show (if limit c (m_r06_Ops c) = true then _ else _) = _
  cases limit c (m_r06_Ops c) <;> cases m_r06_heads c <;> cases c.Blocks.all (okB c) <;> rfl
theorem ir_L1 (c : GCode List) (u : Int) : ∀ (l : List (GBlock List)) (k : Nat), m_ir_CheckCode_L1 c u l k = bif l.all (fun b => m_ir_within b.Params 999) then .go () else .out 4
  | [], k => rfl
  | b :: l, k => by
    rw [m_ir_CheckCode_L1, List.all_cons, ir_L1 c u l (k + 1)]
    cases m_ir_within b.Params 999 <;> rfl
theorem ir_L2 (c : GCode List) (u : Int) : ∀ (l : List (GBlock List)) (k : Nat), m_ir_CheckCode_L2 c u l k = bif l.all (m_ir_rightBlock c) then .go () else .out 4
  | [], k => rfl
  | b :: l, k => by
    rw [m_ir_CheckCode_L2, List.all_cons, ir_L2 c u l (k + 1)]
    cases m_ir_rightBlock c b <;> rfl
theorem ops_same (c : GCode List) : ∀ (l : List (GBlock List)) (k : Nat) (s : Int), m_ir_CheckCode_L0 c l k s = .go (l.foldl (fun s b => wr (s + ((b.Ops.length : Nat) : Int))) s)
  | [], k, s => rfl
  | b :: l, k, s => by rw [m_ir_CheckCode_L0, ops_same c l (k + 1)]; rfl
theorem ir_chk (c : GCode List) : m_ir_CheckCode c = bif limit c (c.Blocks.foldl (fun s b => wr (s + ((b.Ops.length : Nat) : Int))) 0) then 5 else bif ((m_ir_rightHead c && m_ir_rightContexts c.Contexts && m_ir_rightObjects c) && (c.Blocks.all (fun b => m_ir_within b.Params 999) && c.Blocks.all (m_ir_rightBlock c))) then 0 else 4 := by
  unfold m_ir_CheckCode
  rw [ops_same, Lp.el_go]
  generalize c.Blocks.foldl (fun s b => wr (s + ((b.Ops.length : Nat) : Int))) 0 = n
  rw [ir_L1, ir_L2]
  show (if limit c n = true then _ else _) = _
  cases limit c n <;> cases m_ir_rightHead c <;> cases m_ir_rightContexts c.Contexts <;> cases m_ir_rightObjects c <;> cases c.Blocks.all (fun b => m_ir_within b.Params 999) <;> cases c.Blocks.all (m_ir_rightBlock c) <;> rfl

/-! what follows for a caller -/
theorem r06_ok {c : GCode List} (h : m_r06_CheckCode c = 0) : m_r06_heads c = true ∧ c.Blocks.all (okB c) = true := by
  rw [r06_chk] at h
  cases h1 : limit c (m_r06_Ops c) <;> cases h2 : m_r06_heads c <;> cases h3 : c.Blocks.all (okB c) <;> rw [h1, h2, h3] at h <;> first | exact ⟨rfl, rfl⟩ | (exact absurd h (by decide))
theorem ir_ok {c : GCode List} (h : m_ir_CheckCode c = 0) : m_ir_rightHead c = true ∧ m_ir_rightContexts c.Contexts = true ∧ m_ir_rightObjects c = true ∧ c.Blocks.all (fun b => m_ir_within b.Params 999) = true ∧ c.Blocks.all (m_ir_rightBlock c) = true := by
  rw [ir_chk] at h
  generalize limit c (c.Blocks.foldl (fun s b => wr (s + ((b.Ops.length : Nat) : Int))) 0) = a at h
  cases a <;> cases h2 : m_ir_rightHead c <;> cases h3 : m_ir_rightContexts c.Contexts <;> cases h4 : m_ir_rightObjects c <;> cases h5 : c.Blocks.all (fun b => m_ir_within b.Params 999) <;> cases h6 : c.Blocks.all (m_ir_rightBlock c) <;> rw [h2, h3, h4, h5, h6] at h <;> first | exact ⟨rfl, rfl, rfl, rfl, rfl⟩ | (exact absurd h (by decide))
theorem ctx_pos {l : List GContext} (h : m_ir_rightContexts l = true) : 0 < l.length := by
  unfold m_ir_rightContexts at h
  by_cases h1 : ((l.length : Nat) : Int) = 0
  · rw [if_pos h1] at h; cases h
  · omega
theorem r06_term_N {c : GCode List} {b : GBlock List} (h : m_r06_term c b = true) (hk : b.Term.Kind = 3 ∨ b.Term.Kind = 6) : 0 ≤ b.Term.N := by
  rcases Int.lt_or_le b.Term.N 0 with h1 | h1
  · exfalso
    unfold m_r06_term at h
    rcases hk with hk | hk
    · simp [hk, h1] at h
    · simp [hk, h1] at h
  · exact h1
theorem ir_term_N {c : GCode List} {p : Int} {d : List (Int × Int)} {t : GTerm List} {n : Int} (h : m_ir_rightTerm c p d t n = true) (hk : t.Kind = 3 ∨ t.Kind = 6) : 0 ≤ t.N := by
  rcases Int.lt_or_le t.N 0 with h1 | h1
  · exfalso
    have hw : m_ir_within t.N 7 = false := by unfold m_ir_within; rw [if_neg (by omega)]
    grind [m_ir_rightTerm, m_ir_rightTerm_J0, m_ir_rightTerm_J1, m_ir_rightTerm_J2, Lp.el]
  · exact h1
theorem chk_r06_N {c : GCode List} {b : GBlock List} (h : m_r06_CheckCode c = 0) (hb : b ∈ c.Blocks) (hk : b.Term.Kind = 3 ∨ b.Term.Kind = 6) : 0 ≤ b.Term.N := by
  have h1 := List.all_eq_true.1 (r06_ok h).2 b hb
  refine r06_term_N (c := c) ?_ hk
  unfold okB at h1
  cases h2 : m_r06_term c b with
  | true => rfl
  | false => rw [h2] at h1; simp at h1
theorem chk_ir_N {c : GCode List} {b : GBlock List} (h : m_ir_CheckCode c = 0) (hb : b ∈ c.Blocks) (hk : b.Term.Kind = 3 ∨ b.Term.Kind = 6) : 0 ≤ b.Term.N := by
  have h1 := List.all_eq_true.1 (ir_ok h).2.2.2.2 b hb
  unfold m_ir_rightBlock at h1
  cases h2 : m_ir_rightBlock_L0 c b b.Ops 0 [] with
  | out r =>
    rw [h2, Lp.el_out] at h1
    have key : ∀ (l : List GOp) (k : Nat) (s : List (Int × Int)) (r : Bool), m_ir_rightBlock_L0 c b l k s = .out r → r = false := by
      intro l
      induction l with
      | nil => intro k s r h; cases h
      | cons x l ih =>
        intro k s r h
        rw [m_ir_rightBlock_L0] at h
        split at h
        · exact ih _ _ _ h
        · split at h
          · cases h; rfl
          · exact ih _ _ _ h
    rw [key _ _ _ _ h2] at h1; cases h1
  | go u =>
    rw [h2, Lp.el_go] at h1
    cases h3 : m_ir_rightBlock_L1 c b u b.Ops 0 with
    | out r =>
      rw [h3, Lp.el_out] at h1
      have key : ∀ (l : List GOp) (k : Nat) (r : Bool), m_ir_rightBlock_L1 c b u l k = .out r → r = false := by
        intro l
        induction l with
        | nil => intro k r h; cases h
        | cons x l ih =>
          intro k r h
          rw [m_ir_rightBlock_L1] at h
          split at h
          · cases h; rfl
          · exact ih _ _ h
      rw [key _ _ _ h3] at h1; cases h1
    | go v =>
      rw [h3, Lp.el_go] at h1
      exact ir_term_N h1 hk
end Go.Proofs.Ytbpccmnalhdpmaa
