/- The two CheckCode answer alike (plain Lean). Last: heads, and the whole. -/
import Derived.Test.YtbpccmnalhdpmaaGx
set_option linter.unusedVariables false
set_option linter.unusedSimpArgs false
set_option maxRecDepth 4000
namespace Go.Proofs.Ytbpccmnalhdpmaa
open Go.RowKit Go.Fw

/-! contexts -/
def ctxOk (k : Nat) (x : GContext) : Prop := 0 ≤ x.Func ∧ x.Func < 8 ∧ (k = 0 → x.Parent = -1 ∧ x.Stmt = -1) ∧ (0 < k → 0 ≤ x.Parent ∧ x.Parent < (k : Nat) ∧ 0 ≤ x.Stmt ∧ x.Stmt ≤ 9999)
def ctxAll : List GContext → Nat → Prop
  | [], _ => True
  | x :: l, k => ctxOk k x ∧ ctxAll l (k + 1)
theorem heads_L0 (c : GCode List) : ∀ (l : List GContext) (k : Nat), (m_r06_heads_L0 c l k = .go () ∧ ctxAll l k) ∨ (m_r06_heads_L0 c l k = .out false ∧ ¬ ctxAll l k)
  | [], k => .inl ⟨rfl, trivial⟩
  | x :: l, k => by
    rw [m_r06_heads_L0]
    split
    · rename_i h
      refine .inr ⟨rfl, fun q => ?_⟩
      simp only [Bool.or_eq_true, Bool.and_eq_true, decide_eq_true_eq] at h
      obtain ⟨⟨q1, q2, q3, q4⟩, _⟩ := q
      by_cases hk : k = 0
      · have := q3 hk
        omega
      · have := q4 (by omega)
        omega
    · rename_i h
      simp only [Bool.or_eq_true, Bool.and_eq_true, decide_eq_true_eq] at h
      have hok : ctxOk k x := ⟨by omega, by omega, fun hk => ⟨by omega, by omega⟩, fun hk => ⟨by omega, by omega, by omega, by omega⟩⟩
      rcases heads_L0 c l (k + 1) with ⟨h1, h2⟩ | ⟨h1, h2⟩
      · exact .inl ⟨h1, hok, h2⟩
      · exact .inr ⟨h1, fun q => h2 q.2⟩
theorem ctx_L0 (l0 : List GContext) : ∀ (l : List GContext) (k : Nat), 0 < k → (m_ir_rightContexts_L0 l0 l k = .go () ∧ ctxAll l k) ∨ (m_ir_rightContexts_L0 l0 l k = .out false ∧ ¬ ctxAll l k)
  | [], k, _ => .inl ⟨rfl, trivial⟩
  | x :: l, k, hk => by
    rw [m_ir_rightContexts_L0]
    have wf := within_iff x.Func 7
    have wp := within_iff x.Parent (((k : Nat) : Int) - 1)
    have ws := within_iff x.Stmt 9999
    by_cases h : m_ir_within x.Func 7 = true
    · rw [if_pos h]
      rw [wf] at h
      split
      · rename_i h2
        refine .inr ⟨rfl, fun q => ?_⟩
        simp only [Bool.or_eq_true, Bool.and_eq_true, Bool.not_eq_true', decide_eq_true_eq, ← Bool.not_eq_true, wp, ws] at h2
        have := q.1.2.2.2 hk
        omega
      · rename_i h2
        simp only [Bool.or_eq_true, Bool.and_eq_true, Bool.not_eq_true', decide_eq_true_eq, ← Bool.not_eq_true, wp, ws] at h2
        have hok : ctxOk k x := ⟨by omega, by omega, fun h0 => by omega, fun _ => ⟨by omega, by omega, by omega, by omega⟩⟩
        rcases ctx_L0 l0 l (k + 1) (by omega) with ⟨h3, h4⟩ | ⟨h3, h4⟩
        · exact .inl ⟨h3, hok, h4⟩
        · exact .inr ⟨h3, fun q => h4 q.2⟩
    · rw [if_neg h]
      rw [wf] at h
      exact .inr ⟨rfl, fun q => h ⟨q.1.1, by have := q.1.2.1; omega⟩⟩
theorem ctx_iff (l : List GContext) : m_ir_rightContexts l = true ↔ l ≠ [] ∧ ctxAll l 0 := by
  unfold m_ir_rightContexts
  cases l with
  | nil =>
    have h0 : ((([] : List GContext).length : Nat) : Int) = 0 := rfl
    rw [if_pos h0]; exact ⟨fun h => Bool.noConfusion h, fun h => absurd rfl h.1⟩
  | cons x l =>
    rw [if_neg (by simp; omega)]
    have wf := within_iff x.Func 7
    show (if x.Parent ≠ -1 then false else if x.Stmt ≠ -1 then false else _) = true ↔ _
    by_cases h1 : x.Parent ≠ -1
    · rw [if_pos h1]
      exact ⟨fun h => Bool.noConfusion h, fun h => absurd (h.2.1.2.2.1 rfl).1 h1⟩
    · rw [if_neg h1]
      by_cases h2 : x.Stmt ≠ -1
      · rw [if_pos h2]
        exact ⟨fun h => Bool.noConfusion h, fun h => absurd (h.2.1.2.2.1 rfl).2 h2⟩
      · rw [if_neg h2, m_ir_rightContexts_L0]
        by_cases h : m_ir_within x.Func 7 = true
        · rw [if_pos h]
          rw [wf] at h
          rw [if_neg (by simp)]
          have hok : ctxOk 0 x := ⟨h.1, by omega, fun _ => ⟨by omega, by omega⟩, fun h0 => by omega⟩
          rcases ctx_L0 (x :: l) l 1 (by omega) with ⟨h3, h4⟩ | ⟨h3, h4⟩
          · rw [h3]; exact ⟨fun _ => ⟨by simp, hok, h4⟩, fun _ => rfl⟩
          · rw [h3]; exact ⟨fun h => Bool.noConfusion h, fun q => absurd q.2.2 h4⟩
        · rw [if_neg h]
          rw [wf] at h
          exact ⟨fun h => Bool.noConfusion h, fun q => absurd ⟨q.2.1.1, by have := q.2.1.2.1; omega⟩ h⟩

/-! objects -/
def objOk (c : GCode List) (k : Nat) (x : GObject) : Prop := (0 ≤ x.Ctx ∧ x.Ctx < (c.Contexts.length : Nat) ∧ 0 ≤ x.Var ∧ x.Var < 24 ∧ 1 ≤ x.Words ∧ x.Words ≤ 8) ∧ ∀ (j : Nat) (y : GObject), j < k → c.Objects[j]? = some y → ¬ (y.Ctx = x.Ctx ∧ y.Var = x.Var)
theorem heads_L2 (c : GCode List) (x : GObject) (k : Nat) (hk : k ≤ c.Objects.length) : ∀ (n : Nat) (i : Nat), i + n = k → (m_r06_heads_L2 c x k n ((i : Nat) : Int) = .go () ∧ ∀ (j : Nat) (y : GObject), i ≤ j → j < k → c.Objects[j]? = some y → ¬ (y.Ctx = x.Ctx ∧ y.Var = x.Var)) ∨
    (m_r06_heads_L2 c x k n ((i : Nat) : Int) = .out false ∧ ∃ (j : Nat) (y : GObject), j < k ∧ c.Objects[j]? = some y ∧ (y.Ctx = x.Ctx ∧ y.Var = x.Var))
  | 0, i, h => .inl ⟨rfl, fun j y h1 h2 => by omega⟩
  | n + 1, i, h => by
    have hi : i < c.Objects.length := by omega
    have hg : c.Objects[i]? = some c.Objects[i] := List.getElem?_eq_getElem hi
    have e : (c.Objects[(((i : Nat) : Int)).toNat]?.getD (⟨(0 : Int), (0 : Int), (0 : Int)⟩ : GObject)) = c.Objects[i] := by rw [Int.toNat_natCast, hg]; rfl
    rw [m_r06_heads_L2, e]
    have ih := heads_L2 c x k hk n (i + 1) (by omega)
    have e2 : (((i : Nat) : Int) + 1) = ((i + 1 : Nat) : Int) := rfl
    rw [e2]
    have step : ¬ (c.Objects[i].Ctx = x.Ctx ∧ c.Objects[i].Var = x.Var) → (m_r06_heads_L2 c x k n ((i + 1 : Nat) : Int) = .go () ∧ ∀ (j : Nat) (y : GObject), i ≤ j → j < k → c.Objects[j]? = some y → ¬ (y.Ctx = x.Ctx ∧ y.Var = x.Var)) ∨
        (m_r06_heads_L2 c x k n ((i + 1 : Nat) : Int) = .out false ∧ ∃ (j : Nat) (y : GObject), j < k ∧ c.Objects[j]? = some y ∧ (y.Ctx = x.Ctx ∧ y.Var = x.Var)) := fun hne => by
      rcases ih with ⟨h1, h2⟩ | h1
      · refine .inl ⟨h1, fun j y q1 q2 q3 => ?_⟩
        rcases Nat.lt_or_ge i j with q | q
        · exact h2 j y q q2 q3
        · obtain rfl : j = i := by omega
          rw [hg] at q3; cases q3; exact hne
      · exact .inr h1
    by_cases h1 : c.Objects[i].Ctx = x.Ctx
    · rw [if_pos h1]
      by_cases h2 : c.Objects[i].Var = x.Var
      · rw [if_pos h2]
        exact .inr ⟨rfl, i, _, by omega, hg, h1, h2⟩
      · rw [if_neg h2]; exact step fun q => h2 q.2
    · rw [if_neg h1]; exact step fun q => h1 q.1
theorem heads_L1 (c : GCode List) : ∀ (l : List GObject) (k : Nat), c.Objects.drop k = l → (m_r06_heads_L1 c l k = .go () ∧ ∀ (j : Nat) (x : GObject), k ≤ j → c.Objects[j]? = some x → objOk c j x) ∨ (m_r06_heads_L1 c l k = .out false ∧ ∃ (j : Nat) (x : GObject), c.Objects[j]? = some x ∧ ¬ objOk c j x)
  | [], k, hl => by
    have hk : c.Objects.length ≤ k := by simpa using hl
    exact .inl ⟨rfl, fun j x h1 h2 => by have := (List.getElem?_eq_some_iff.1 h2).1; omega⟩
  | x :: l, k, hl => by
    obtain ⟨h1, h2⟩ := drop_get hl
    have hk := (List.getElem?_eq_some_iff.1 h1).1
    rw [m_r06_heads_L1]
    split
    · rename_i h
      simp only [Bool.or_eq_true, decide_eq_true_eq] at h
      exact .inr ⟨rfl, k, x, h1, fun q => by have := q.1; omega⟩
    · rename_i h
      simp only [Bool.or_eq_true, decide_eq_true_eq] at h
      have e0 : (((k : Nat) : Int) - 0).toNat = k := by omega
      rw [e0]
      rcases heads_L2 c x k (by omega) k 0 (by omega) with ⟨h3, h4⟩ | ⟨h3, j, y, h4, h5, h6⟩
      · have h3 : m_r06_heads_L2 c x k k 0 = .go () := h3
        rw [h3, Lp.el_go]
        have hok : objOk c k x := ⟨⟨by omega, by omega, by omega, by omega, by omega, by omega⟩, fun j y q1 q2 => h4 j y (Nat.zero_le _) q1 q2⟩
        rcases heads_L1 c l (k + 1) h2 with ⟨h5, h6⟩ | h5
        · refine .inl ⟨h5, fun j y q1 q2 => ?_⟩
          rcases Nat.lt_or_ge k j with q | q
          · exact h6 j y q q2
          · obtain rfl : j = k := by omega
            rw [h1] at q2; cases q2; exact hok
        · exact .inr h5
      · have h3 : m_r06_heads_L2 c x k k 0 = .out false := h3
        rw [h3, Lp.el_out]
        exact .inr ⟨rfl, k, x, h1, fun q => q.2 j y h4 h5 h6⟩
def SeenOk (c : GCode List) (k : Nat) (s : List ((Int × Int × Int) × Bool)) : Prop := ∀ a b v, mget s (a, b, 0) = some v ↔ v = true ∧ ∃ (j : Nat) (y : GObject), j < k ∧ c.Objects[j]? = some y ∧ y.Ctx = a ∧ y.Var = b
theorem objs_L0 (c : GCode List) : ∀ (l : List GObject) (k : Nat) (s : List ((Int × Int × Int) × Bool)), c.Objects.drop k = l → SeenOk c k s → ((∃ t, m_ir_rightObjects_L0 c l k s = .go t) ∧ ∀ (j : Nat) (x : GObject), k ≤ j → c.Objects[j]? = some x → objOk c j x) ∨ (m_ir_rightObjects_L0 c l k s = .out false ∧ ∃ (j : Nat) (x : GObject), c.Objects[j]? = some x ∧ ¬ objOk c j x)
  | [], k, s, hl, hs => by
    have hk : c.Objects.length ≤ k := by simpa using hl
    exact .inl ⟨⟨s, rfl⟩, fun j x h1 h2 => by have := (List.getElem?_eq_some_iff.1 h2).1; omega⟩
  | x :: l, k, s, hl, hs => by
    obtain ⟨h1, h2⟩ := drop_get hl
    have wc := within_iff x.Ctx (((c.Contexts.length : Nat) : Int) - 1)
    have wv := within_iff x.Var 23
    have hseen : (mget s (x.Ctx, x.Var, 0)).getD false = true ↔ ∃ (j : Nat) (y : GObject), j < k ∧ c.Objects[j]? = some y ∧ y.Ctx = x.Ctx ∧ y.Var = x.Var := by
      have := hs x.Ctx x.Var
      cases hm : mget s (x.Ctx, x.Var, 0) with
      | none =>
        refine ⟨fun h => Bool.noConfusion h, fun h => ?_⟩
        rw [(this true).2 ⟨rfl, h⟩] at hm; cases hm
      | some v =>
        have h3 := (this v).1 hm
        exact ⟨fun _ => h3.2, fun _ => h3.1⟩
    rw [m_ir_rightObjects_L0]
    split
    · rename_i h
      simp only [Bool.or_eq_true, Bool.not_eq_true', decide_eq_true_eq, ← Bool.not_eq_true, wc, wv, hseen] at h
      refine .inr ⟨rfl, k, x, h1, fun q => ?_⟩
      rcases h with h | ⟨j, y, q1, q2, q3⟩
      · have := q.1; omega
      · exact q.2 j y q1 q2 q3
    · rename_i h
      simp only [Bool.or_eq_true, Bool.not_eq_true', decide_eq_true_eq, ← Bool.not_eq_true, wc, wv, hseen] at h
      have hn : ¬ ∃ (j : Nat) (y : GObject), j < k ∧ c.Objects[j]? = some y ∧ y.Ctx = x.Ctx ∧ y.Var = x.Var := fun q => h (.inr q)
      have hr : ¬ ((((¬ (0 ≤ x.Ctx ∧ x.Ctx ≤ ((c.Contexts.length : Nat) : Int) - 1)) ∨ ¬ (0 ≤ x.Var ∧ x.Var ≤ 23)) ∨ x.Words < 1) ∨ 8 < x.Words) := fun q => h (.inl q)
      have hok : objOk c k x := ⟨⟨by omega, by omega, by omega, by omega, by omega, by omega⟩, fun j y q1 q2 q3 => hn ⟨j, y, q1, q2, q3⟩⟩
      have hs' : SeenOk c (k + 1) (mput s (x.Ctx, x.Var, 0) true) := fun a b v => by
        rw [mget_put]
        by_cases he : ((a, b, (0 : Int)) : Int × Int × Int) = (x.Ctx, x.Var, 0)
        · rw [if_pos he]
          simp only [Prod.mk.injEq, and_true] at he
          obtain ⟨rfl, rfl⟩ := he
          constructor
          · intro q; injection q with q
            exact ⟨q.symm, k, x, by omega, h1, rfl, rfl⟩
          · rintro ⟨rfl, _⟩; rfl
        · rw [if_neg he, hs]
          constructor
          · rintro ⟨q, j, y, q1, q2⟩
            exact ⟨q, j, y, by omega, q2⟩
          · rintro ⟨q, j, y, q1, q2, q3, q4⟩
            rcases Nat.lt_or_ge j k with r | r
            · exact ⟨q, j, y, r, q2, q3, q4⟩
            · obtain rfl : j = k := by omega
              rw [h1] at q2; cases q2
              exact absurd (by rw [q3, q4]) he
      rcases objs_L0 c l (k + 1) _ h2 hs' with ⟨h5, h6⟩ | h5
      · refine .inl ⟨h5, fun j y q1 q2 => ?_⟩
        rcases Nat.lt_or_ge k j with q | q
        · exact h6 j y q q2
        · obtain rfl : j = k := by omega
          rw [h1] at q2; cases q2; exact hok
      · exact .inr h5
theorem heads_eq (c : GCode List) : m_r06_heads c = (m_ir_rightHead c && m_ir_rightContexts c.Contexts && m_ir_rightObjects c) := by
  have hc := ctx_iff c.Contexts
  have wp := within_iff c.Params 4
  unfold m_r06_heads m_ir_rightHead m_ir_rightObjects
  by_cases h1 : c.Params < 0
  · rw [if_pos h1, if_neg (by rw [wp]; omega)]; rfl
  · rw [if_neg h1]
    by_cases h2 : 4 < c.Params
    · rw [if_pos h2, if_neg (by rw [wp]; omega)]; rfl
    · rw [if_neg h2, if_pos (wp.2 ⟨by omega, by omega⟩)]
      by_cases h3 : ((c.Blocks.length : Nat) : Int) = 0
      · rw [if_pos h3, if_neg (by omega)]; rfl
      · have h3' : (0 : Int) < ((c.Blocks.length : Nat) : Int) := by omega
        rw [if_neg h3, if_pos h3']
        split
        · rename_i h4
          rw [decide_eq_false h4]; rfl
        · rename_i h4
          rw [decide_eq_true (Decidable.not_not.1 h4), Bool.true_and]
          by_cases h5 : ((c.Contexts.length : Nat) : Int) = 0
          · rw [if_pos h5]
            have : m_ir_rightContexts c.Contexts = false := Bool.eq_false_iff.2 fun q => (hc.1 q).1 (List.length_eq_zero_iff.1 (by omega))
            rw [this]; rfl
          · rw [if_neg h5]
            have hne : c.Contexts ≠ [] := fun q => h5 (by rw [q]; rfl)
            rcases heads_L0 c c.Contexts 0 with ⟨h6, h7⟩ | ⟨h6, h7⟩
            · rw [h6, Lp.el_go, hc.2 ⟨hne, h7⟩, Bool.true_and]
              rcases heads_L1 c c.Objects 0 rfl with ⟨h8, h9⟩ | ⟨h8, j, x, h9, h10⟩ <;> rcases objs_L0 c c.Objects 0 [] rfl (fun a b v => ⟨fun h => (by cases h), fun ⟨_, j, y, h, _⟩ => absurd h (by omega)⟩) with ⟨⟨t, h11⟩, h12⟩ | ⟨h11, j', x', h12, h13⟩
              · rw [h8, h11]; rfl
              · exact absurd (h9 j' x' (Nat.zero_le _) h12) h13
              · exact absurd (h12 j x (Nat.zero_le _) h9) h10
              · rw [h8, h11]; rfl
            · rw [h6, Lp.el_out]
              have : m_ir_rightContexts c.Contexts = false := Bool.eq_false_iff.2 fun q => h7 (hc.1 q).2
              rw [this]; rfl

/-- what memory cannot hold more of -/
def Slim (c : GCode List) : Prop := ∀ b ∈ c.Blocks, b.Term.To.e0.Args.length ≤ 140737488355328 ∧ b.Term.To.e1.Args.length ≤ 140737488355328
theorem head_params {c : GCode List} (h : m_ir_rightHead c = true) : 0 ≤ c.Params ∧ c.Params ≤ 4 := by
  unfold m_ir_rightHead at h
  by_cases h1 : m_ir_within c.Params 4 = true
  · exact (within_iff _ _).1 h1
  · rw [if_neg h1] at h; cases h
theorem all_okB (c : GCode List) (hc : 0 ≤ c.Params ∧ c.Params ≤ 4) : ∀ (l : List (GBlock List)), (∀ b ∈ l, b.Term.To.e0.Args.length ≤ 140737488355328 ∧ b.Term.To.e1.Args.length ≤ 140737488355328) → l.all (okB c) = (l.all (fun b => m_ir_within b.Params 999) && l.all (m_ir_rightBlock c))
  | [], _ => rfl
  | b :: l, hs => by
    rw [List.all_cons, List.all_cons, List.all_cons, all_okB c hc l (fun x hx => hs x (List.mem_cons_of_mem _ hx))]
    have wp := within_iff b.Params 999
    have key : okB c b = (m_ir_within b.Params 999 && m_ir_rightBlock c b) := by
      unfold okB
      by_cases h : m_ir_within b.Params 999 = true
      · have h' := wp.1 h
        have a1 : ¬ b.Params < 0 := by omega
        have a2 : ¬ 999 < b.Params := by omega
        rw [h]
        simp only [a1, a2, decide_false, Bool.false_or, Bool.true_and]
        rcases block_eq c b h' hc with ⟨h1, u, h2, h3⟩ | ⟨h1, h2⟩
        · rw [h1, h3, term_eq c b h2 h' (hs b (List.mem_cons_self ..)).1 (hs b (List.mem_cons_self ..)).2]
          cases m_r06_term c b <;> rfl
        · rw [h1, h2]; rfl
      · have hf : m_ir_within b.Params 999 = false := Bool.eq_false_iff.2 h
        rw [wp] at h
        rw [hf, Bool.false_and]
        by_cases a1 : b.Params < 0
        · simp [a1]
        · have a2 : 999 < b.Params := by omega
          simp [a2]
    rw [key]
    cases m_ir_within b.Params 999 <;> cases m_ir_rightBlock c b <;> cases l.all (fun b => m_ir_within b.Params 999) <;> cases l.all (m_ir_rightBlock c) <;> rfl
theorem ops_count (c : GCode List) : ∀ (l : List (GBlock List)) (k : Nat) (s : Int), m_r06_Ops_L0 c l k s = .go (l.foldl (fun s b => wr (s + ((b.Ops.length : Nat) : Int))) s)
  | [], k, s => rfl
  | b :: l, k, s => by rw [m_r06_Ops_L0, ops_count c l (k + 1)]; rfl
theorem checkCode_eq (c : GCode List) (hs : Slim c) : m_ir_CheckCode c = m_r06_CheckCode c := by
  rw [ir_chk, r06_chk, heads_eq]
  unfold m_r06_Ops
  rw [ops_count, Lp.el_go]
  cases h1 : m_ir_rightHead c with
  | false => rfl
  | true =>
    rw [all_okB c (head_params h1) c.Blocks hs]
end Go.Proofs.Ytbpccmnalhdpmaa
