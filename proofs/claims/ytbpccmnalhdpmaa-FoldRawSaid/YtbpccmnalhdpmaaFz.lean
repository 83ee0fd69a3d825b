/- The two folds answer alike, operation by operation (plain Lean). -/
import Derived.Test.YtbpccmnalhdpmaaFy
import Derived.Test.YtbpccmnalhdpmaaGy
set_option linter.unusedVariables false
set_option linter.unusedSimpArgs false
set_option maxRecDepth 4000
namespace Go.Proofs.Ytbpccmnalhdpmaa
open Go.RowKit Go.Fw

def OkOp (x : GOp) : Prop := (1 ≤ x.Kind ∧ x.Kind ≤ 21) ∧ (m_r06_UsesA x.Kind = true → 0 ≤ x.A) ∧ (m_r06_UsesB x.Kind = true → 0 ≤ x.B)
def Inv (rs : List (Int × Int)) : Prop := ∀ v r, mget rs v = some r → 0 ≤ r
theorem of_eq (cs rs : List (Int × Int)) : m_r08_facts_of cs rs = m_fold_facts_replace cs rs := rfl
theorem of_pos {cs rs : List (Int × Int)} (h : Inv rs) {v : Int} (hv : 0 ≤ v) : 0 ≤ m_fold_facts_replace cs rs v := by
  unfold m_fold_facts_replace
  cases hm : mget rs v with
  | none => exact hv
  | some r => exact h v r hm
theorem inv_put {rs : List (Int × Int)} (h : Inv rs) (k : Int) {v : Int} (hv : 0 ≤ v) : Inv (mput rs k v) := by
  intro a r hr
  rw [mget_put] at hr
  split at hr
  · injection hr with hr; omega
  · exact h a r hr
theorem wr3 : wr (3 - 3) = 0 ∧ wr (4 - 3) = 1 ∧ wr (5 - 3) = 2 ∧ wr (6 - 3) = 3 ∧ wr (7 - 3) = 4 ∧ wr (8 - 3) = 5 ∧ wr (9 - 3) = 6 ∧ wr (10 - 3) = 7 ∧ wr (11 - 3) = 8 ∧ wr (12 - 3) = 9 ∧ wr (13 - 3) = 10 ∧ wr (14 - 3) = 11 := by decide
theorem wr6 : wr (0 + 6) = 6 ∧ wr (1 + 6) = 7 ∧ wr (2 + 6) = 8 ∧ wr (3 + 6) = 9 ∧ wr (4 + 6) = 10 ∧ wr (5 + 6) = 11 ∧ wr (6 + 6) = 12 ∧ wr (7 + 6) = 13 ∧ wr (8 + 6) = 14 ∧ wr (9 + 6) = 15 ∧ wr (10 + 6) = 16 ∧ wr (11 + 6) = 17 := by decide
theorem bin_eq {k : Int} (h : 3 ≤ k ∧ k ≤ 14) (u v : Int) (hd : (k = 6 ∨ k = 7) → v ≠ 0) : m_fold_binary k u v = (m_r05_Binary (wr (k - 3)) u v, true) := by
  obtain ⟨a3, a4, a5, a6, a7, a8, a9, a10, a11, a12, a13, a14⟩ := wr3
  obtain ⟨b0, b1, b2, b3, b4, b5, b6, b7, b8, b9, b10, b11⟩ := wr6
  have hk : k = 3 ∨ k = 4 ∨ k = 5 ∨ k = 6 ∨ k = 7 ∨ k = 8 ∨ k = 9 ∨ k = 10 ∨ k = 11 ∨ k = 12 ∨ k = 13 ∨ k = 14 := by omega
  unfold m_fold_binary m_r05_Binary m_fold_truth
  rcases hk with rfl | rfl | rfl | rfl | rfl | rfl | rfl | rfl | rfl | rfl | rfl | rfl
  · rw [a3, b0]; rfl
  · rw [a4, b1]; rfl
  · rw [a5, b2]; rfl
  · have := hd (.inl rfl); rw [a6, b3]; simp [this]
  · have := hd (.inr rfl); rw [a7, b4]; simp [this]
  · rw [a8, b5]; rfl
  · rw [a9, b6]; rfl
  · rw [a10, b7]; rfl
  · rw [a11, b8]; simp
  · rw [a12, b9]; simp
  · rw [a13, b10]; simp
  · rw [a14, b11]; simp
theorem bin_no {k : Int} (h : k = 6 ∨ k = 7) (u : Int) : (m_fold_binary k u 0).2 = false := by
  rcases h with rfl | rfl <;> rfl
/-- What the reference does once the operands stand. -/
def rfin (cs rs : List (Int × Int)) (x : GOp) : GOp × List (Int × Int) × List (Int × Int) :=
  if ((mget cs x.A).isSome && (mget cs x.B).isSome) = true then
    if ((decide (((mget cs x.B).getD (0 : Int)) = (0 : Int))) && ((decide (x.Kind = (6 : Int))) || (decide (x.Kind = (7 : Int))))) = true then (x, cs, rs)
    else (⟨1, x.Dst, 0, 0, m_r05_Binary (wr (x.Kind - (3 : Int))) ((mget cs x.A).getD (0 : Int)) ((mget cs x.B).getD (0 : Int)), 0, 0, 0, ⟨0, 0, 0⟩⟩, mput cs x.Dst (m_r05_Binary (wr (x.Kind - (3 : Int))) ((mget cs x.A).getD (0 : Int)) ((mget cs x.B).getD (0 : Int))), rs)
  else if (0 : Int) ≤ (m_r08_facts_copies cs rs x) then (⟨2, x.Dst, m_r08_facts_copies cs rs x, 0, 0, 0, 0, 0, ⟨0, 0, 0⟩⟩, cs, mput rs x.Dst (m_r08_facts_copies cs rs x))
  else if (((decide (x.Kind = (5 : Int))) || (decide (x.Kind = (8 : Int)))) && ((m_r08_facts_is cs rs x.A (0 : Int)) || (m_r08_facts_is cs rs x.B (0 : Int)))) = true then (⟨1, x.Dst, 0, 0, 0, 0, 0, 0, ⟨0, 0, 0⟩⟩, mput cs x.Dst 0, rs)
  else (x, cs, rs)
theorem comb_eq (cs rs : List (Int × Int)) (x : GOp) (h : 3 ≤ x.Kind ∧ x.Kind ≤ 14) (ha : 0 ≤ x.A) (hb : 0 ≤ x.B) : m_fold_facts_combine cs rs x = rfin cs rs x := by
  unfold m_fold_facts_combine rfin m_r08_facts_copies m_r08_facts_is m_fold_facts_become m_fold_facts_copyOf m_fold_neutralLeft m_fold_neutralRight
  cases h1 : mget cs x.A with
  | none =>
    cases h2 : mget cs x.B with
    | none => grind [lt_eq]
    | some v => grind [lt_eq]
  | some u =>
    cases h2 : mget cs x.B with
    | none => grind [lt_eq]
    | some v =>
      by_cases hd : (x.Kind = 6 ∨ x.Kind = 7) → v ≠ 0
      · simp only [Option.isSome_some, Option.getD_some, Bool.and_self, ↓reduceIte, lt_eq]
        simp only [bin_eq h u v hd]
        grind
      · have hv : v = 0 := by
          rcases Classical.em (v = 0) with h | h
          · exact h
          · exact absurd (fun _ => h) hd
        subst hv
        have hk : x.Kind = 6 ∨ x.Kind = 7 := by
          rcases Classical.em (x.Kind = 6 ∨ x.Kind = 7) with h | h
          · exact h
          · exact absurd (fun q => absurd q h) hd
        simp only [Option.isSome_some, Option.getD_some, Bool.and_self, ↓reduceIte, lt_eq]
        simp only [bin_no hk u]
        grind
theorem rest_same (k : Int) : m_r06_UsesA k = ((((decide (k = (2 : Int))) || (decide (k = (15 : Int)))) || (decide (k = (18 : Int)))) || (((decide ((3 : Int) ≤ k)) && (decide (k ≤ (14 : Int)))) || (decide (k = (16 : Int))))) := by
  rw [Bool.eq_iff_iff, usesA_iff]; simp; omega
theorem useB_same (k : Int) : m_r06_UsesB k = (((decide ((3 : Int) ≤ k)) && (decide (k ≤ (14 : Int)))) || (decide (k = (16 : Int)))) := by
  rw [Bool.eq_iff_iff, usesB_iff]; simp
/-- The operands read through the map. -/
def opnd (φ : Int → Int) (x : GOp) : GOp := ⟨x.Kind, x.Dst, bif m_r06_UsesA x.Kind then φ x.A else x.A, bif m_r06_UsesB x.Kind then φ x.B else x.B, x.N, x.Ctx, x.Var, x.Piece, x.Src⟩
theorem opnd_eq (φ : Int → Int) (x : GOp) : m_fold_operands1 φ x = opnd φ x := by
  unfold m_fold_operands1 opnd
  rw [rest_same, useB_same]
  cases h1 : (((decide (x.Kind = (2 : Int))) || (decide (x.Kind = (15 : Int)))) || (decide (x.Kind = (18 : Int)))) <;>
  cases h2 : (((decide ((3 : Int) ≤ x.Kind)) && (decide (x.Kind ≤ (14 : Int)))) || (decide (x.Kind = (16 : Int)))) <;> rfl
theorem J0_eq (cs rs : List (Int × Int)) (x : GOp) : m_r08_facts_op_J0 cs rs x = .go (bif m_r06_UsesA x.Kind then m_fold_facts_replace cs rs x.A else x.A) := by
  unfold m_r08_facts_op_J0; cases m_r06_UsesA x.Kind <;> rfl
theorem J1_eq (cs rs : List (Int × Int)) (x : GOp) (u : Int) : m_r08_facts_op_J1 cs rs x u = .go (bif m_r06_UsesB x.Kind then m_fold_facts_replace cs rs x.B else x.B) := by
  unfold m_r08_facts_op_J1; cases m_r06_UsesB x.Kind <;> rfl
/-- What both do. -/
def fop (cs rs : List (Int × Int)) (x : GOp) : GOp × List (Int × Int) × List (Int × Int) :=
  if x.Kind = 1 then (x, mput cs x.Dst x.N, rs)
  else if x.Kind = 21 then (m_r08_facts_bind cs rs x, cs, rs)
  else if x.Kind = 2 then
    if ((mget cs (opnd (m_fold_facts_replace cs rs) x).A).isSome) = true then (⟨1, x.Dst, 0, 0, (mget cs (opnd (m_fold_facts_replace cs rs) x).A).getD 0, 0, 0, 0, ⟨0, 0, 0⟩⟩, mput cs x.Dst ((mget cs (opnd (m_fold_facts_replace cs rs) x).A).getD 0), rs)
    else (opnd (m_fold_facts_replace cs rs) x, cs, mput rs x.Dst (opnd (m_fold_facts_replace cs rs) x).A)
  else if 3 ≤ x.Kind ∧ x.Kind ≤ 14 then rfin cs rs (opnd (m_fold_facts_replace cs rs) x)
  else (opnd (m_fold_facts_replace cs rs) x, cs, rs)
theorem opnd_1 (φ : Int → Int) {x : GOp} (h : x.Kind = 1 ∨ x.Kind = 21) : opnd φ x = x := by
  unfold opnd
  have a : m_r06_UsesA x.Kind = false := by rw [Bool.eq_false_iff, Ne, usesA_iff]; omega
  have b : m_r06_UsesB x.Kind = false := by rw [Bool.eq_false_iff, Ne, usesB_iff]; omega
  rw [a, b]; rfl
theorem fold_fop (cs rs : List (Int × Int)) (hi : Inv rs) (x : GOp) (h : OkOp x) : m_fold_op cs rs x = fop cs rs x := by
  unfold m_fold_op fop
  rw [lt_eq, opnd_eq]
  obtain ⟨hk, h1, h2⟩ := h
  by_cases k1 : x.Kind = 1
  · rw [opnd_1 _ (.inl k1), if_pos k1, if_pos k1]
  · by_cases k21 : x.Kind = 21
    · rw [opnd_1 _ (.inr k21)]
      unfold m_r08_facts_bind
      simp only [of_eq, k21, lt_eq]
      grind
    · show (if x.Kind = 1 then _ else if x.Kind = 2 then _ else if 3 ≤ x.Kind then if x.Kind ≤ 14 then _ else if x.Kind = 21 then _ else _ else _) = _
      by_cases k2 : x.Kind = 2
      · simp only [k1, k2, k21, if_false, if_true, lt_eq]; rfl
      · by_cases k3 : 3 ≤ x.Kind
        · by_cases k14 : x.Kind ≤ 14
          · simp only [k1, k2, k21, k3, k14, if_false, if_true, lt_eq, and_self]
            show m_fold_facts_combine cs rs (opnd (m_fold_facts_replace cs rs) x) = _
            rw [comb_eq cs rs (opnd (m_fold_facts_replace cs rs) x) ⟨k3, k14⟩ ?_ ?_]
            · have : m_r06_UsesA x.Kind = true := by rw [usesA_iff]; omega
              show 0 ≤ (bif m_r06_UsesA x.Kind then _ else _)
              rw [this]; exact of_pos (cs := cs) hi (h1 this)
            · have : m_r06_UsesB x.Kind = true := by rw [usesB_iff]; omega
              show 0 ≤ (bif m_r06_UsesB x.Kind then _ else _)
              rw [this]; exact of_pos (cs := cs) hi (h2 this)
          · simp only [k1, k2, k21, k3, k14, if_false, if_true, and_false]
        · simp only [k1, k2, k21, k3, if_false, if_true, false_and]
theorem ref_fop (cs rs : List (Int × Int)) (x : GOp) : m_rop cs rs x = fop cs rs x := by
  unfold m_rop fop
  rw [lt_eq]
  unfold m_r08_facts_op
  rw [J0_eq, Lp.el_go, J1_eq, Lp.el_go]
  by_cases k1 : x.Kind = 1
  · have : ¬ x.Kind = 21 := by omega
    rw [if_neg this, if_pos k1, if_pos k1]
  · by_cases k21 : x.Kind = 21
    · rw [if_pos k21, if_neg k1, if_pos k21]
    · rw [if_neg k21, if_neg k1, if_neg k1, if_neg k21]
      by_cases k2 : x.Kind = 2
      · rw [if_pos k2, if_pos k2]; rfl
      · rw [if_neg k2, if_neg k2]
        by_cases k3 : 3 ≤ x.Kind
        · rw [if_neg (show ¬ x.Kind < 3 by omega)]
          by_cases k14 : x.Kind ≤ 14
          · rw [if_neg (show ¬ 14 < x.Kind by omega), if_pos (show 3 ≤ x.Kind ∧ x.Kind ≤ 14 from ⟨k3, k14⟩)]
            unfold rfin
            show _ = (if ((mget cs (bif m_r06_UsesA x.Kind then m_fold_facts_replace cs rs x.A else x.A)).isSome && (mget cs (bif m_r06_UsesB x.Kind then m_fold_facts_replace cs rs x.B else x.B)).isSome) = true then _ else _)
            cases h1 : (mget cs (bif m_r06_UsesA x.Kind then m_fold_facts_replace cs rs x.A else x.A)).isSome <;>
            cases h2 : (mget cs (bif m_r06_UsesB x.Kind then m_fold_facts_replace cs rs x.B else x.B)).isSome <;> rfl
          · rw [if_pos (show 14 < x.Kind by omega), if_neg (show ¬ (3 ≤ x.Kind ∧ x.Kind ≤ 14) from fun q => k14 q.2)]; rfl
        · rw [if_pos (show x.Kind < 3 by omega), if_neg (show ¬ (3 ≤ x.Kind ∧ x.Kind ≤ 14) from fun q => k3 q.1)]; rfl
theorem copies_pos {cs rs : List (Int × Int)} {x : GOp} : 0 ≤ m_r08_facts_copies cs rs x → 0 ≤ m_r08_facts_copies cs rs x := id
theorem fop_inv (cs rs : List (Int × Int)) (hi : Inv rs) (x : GOp) (h : OkOp x) : Inv (fop cs rs x).2.2 := by
  unfold fop
  split
  · exact hi
  · split
    · exact hi
    · split
      · rename_i k2
        split
        · exact hi
        · refine inv_put hi _ ?_
          have : m_r06_UsesA x.Kind = true := by rw [usesA_iff]; omega
          show 0 ≤ (bif m_r06_UsesA x.Kind then _ else _)
          rw [this]; exact of_pos (cs := cs) hi (h.2.1 this)
      · split
        · unfold rfin
          split
          · split <;> exact hi
          · split
            · rename_i hc
              exact inv_put hi _ hc
            · split <;> exact hi
        · exact hi
theorem fops_same : ∀ (l : List GOp) (cs rs : List (Int × Int)), Inv rs → (∀ x ∈ l, OkOp x) → m_foldOps l cs rs = m_rops l cs rs
  | [], _, _, _, _ => rfl
  | x :: l, cs, rs, hi, h => by
    have hx := h x (List.mem_cons_self ..)
    rw [m_foldOps, m_rops, lt_eq, lt_eq, fold_fop cs rs hi x hx, ref_fop cs rs x, fops_same l _ _ (fop_inv cs rs hi x hx) fun y hy => h y (List.mem_cons_of_mem _ hy)]
theorem list_eq (cs rs : List (Int × Int)) (l : List Int) : m_r08_facts_list cs rs l = l.map (m_fold_facts_replace cs rs) := by
  unfold m_r08_facts_list
  have key : ∀ (l0 l : List Int) (k : Nat) (s : List Int), m_r08_facts_list_L0 cs rs l0 l k s = .go (s ++ l.map (m_fold_facts_replace cs rs)) := by
    intro l0 l
    induction l with
    | nil => intro k s; rw [List.map_nil, List.append_nil]; rfl
    | cons x l ih => intro k s; rw [m_r08_facts_list_L0, ih, List.map_cons, List.append_assoc]; rfl
  rw [key, Lp.el_go, List.nil_append]
theorem term_same (cs rs : List (Int × Int)) (t : GTerm List) : m_fold_term cs rs t.Kind t.A t.N t.To.e0.Block t.To.e1.Block t.Args t.To.e0.Args t.To.e1.Args = m_r08_facts_term cs rs t := by
  unfold m_fold_term m_r08_facts_term
  have hJ : m_r08_facts_term_J0 cs rs t = .go (useA (m_fold_facts_replace cs rs) t.Kind t.A) := by
    unfold m_r08_facts_term_J0 useA
    rw [Bool.or_assoc]
    split <;> rfl
  rw [hJ, Lp.el_go, lt_eq]
  simp only [list_eq]
theorem inv_nil : Inv [] := fun v r h => by cases h
theorem block_same (b : GBlock List) (h : ∀ x ∈ b.Ops, OkOp x) : m_foldBlock b = m_rblock b := by
  unfold m_foldBlock m_rblock
  rw [fops_same b.Ops [] [] inv_nil h, term_same]
theorem known_pos {b : GBlock List} {j : Nat} {x : Int} (hp : 0 ≤ b.Params) (hd : ∀ (j : Nat) (o : GOp), b.Ops[j]? = some o → m_r06_Defines o.Kind = true → b.Params ≤ o.Dst) (h : known b j x) : 0 ≤ x := by
  rcases h with h | ⟨i, o, _, h1, h2, h3⟩
  · exact h.1
  · have := hd i o h1 h2; omega
theorem okOp_of (c : GCode List) (b : GBlock List) (h : okB c b = true) : ∀ x ∈ b.Ops, OkOp x := by
  unfold okB at h
  simp only [Bool.not_eq_true', Bool.or_eq_false_iff, decide_eq_false_iff_not] at h
  obtain ⟨⟨⟨h1, h2⟩, h3⟩, h4⟩ := h
  have h3 : m_r06_ops c b = true := by cases hq : m_r06_ops c b with | true => rfl | false => rw [hq] at h3; cases h3
  rw [ops_iff] at h3
  have hd : ∀ (j : Nat) (o : GOp), b.Ops[j]? = some o → m_r06_Defines o.Kind = true → b.Params ≤ o.Dst := fun j o hj hk => ((h3 j o hj).2.1 hk).1
  intro x hx
  obtain ⟨j, hj⟩ := List.getElem?_of_mem hx
  obtain ⟨q1, q2, q3, q4, q5⟩ := (h3 j x hj).1
  exact ⟨⟨q1, q2⟩, fun h => known_pos (by omega) hd (q4 h), fun h => known_pos (by omega) hd (q5 h)⟩
theorem fold_same (c : GCode List) (hs : Slim c) : m_fold_Fold c = m_r08_Fold c := by
  unfold m_fold_Fold m_r08_Fold
  rw [checkCode_eq c hs]
  by_cases h : m_r06_CheckCode c ≠ 0
  · rw [if_pos h, if_pos h]
  · rw [if_neg h, if_neg h]
    have h := (r06_ok (Classical.not_not.1 h)).2
    have : c.Blocks.map m_foldBlock = c.Blocks.map m_rblock := List.map_congr_left fun b hb => block_same b (okOp_of c b (List.all_eq_true.1 h b hb))
    rw [this]

/-! the same code is the same -/
theorem sC (l : List GContext) : ∀ (n : Nat) (i : Int), m_same_List_api_Context_L0 l l n i = .go ()
  | 0, _ => rfl
  | n + 1, i => by rw [m_same_List_api_Context_L0, if_neg (fun h => h rfl), sC l n]
theorem sO (l : List GObject) : ∀ (n : Nat) (i : Int), m_same_List_api_Object_L0 l l n i = .go ()
  | 0, _ => rfl
  | n + 1, i => by rw [m_same_List_api_Object_L0, if_neg (fun h => h rfl), sO l n]
theorem sP (l : List GOp) : ∀ (n : Nat) (i : Int), m_same_List_api_Op_L0 l l n i = .go ()
  | 0, _ => rfl
  | n + 1, i => by rw [m_same_List_api_Op_L0, if_neg (fun h => h rfl), sP l n]
theorem sI (l : List Int) : ∀ (n : Nat) (i : Int), m_same_List_int_L0 l l n i = .go ()
  | 0, _ => rfl
  | n + 1, i => by rw [m_same_List_int_L0, if_neg (fun h => h rfl), sI l n]
theorem sameC (l : List GContext) : m_same_List_api_Context l l = true := by unfold m_same_List_api_Context; rw [if_neg (fun h => h rfl), sC]; rfl
theorem sameO (l : List GObject) : m_same_List_api_Object l l = true := by unfold m_same_List_api_Object; rw [if_neg (fun h => h rfl), sO]; rfl
theorem sameP (l : List GOp) : m_same_List_api_Op l l = true := by unfold m_same_List_api_Op; rw [if_neg (fun h => h rfl), sP]; rfl
theorem sameI (l : List Int) : m_same_List_int l l = true := by unfold m_same_List_int; rw [if_neg (fun h => h rfl), sI]; rfl
theorem sameE (e : GArr56 List) : m_same_edges e e = true := by unfold m_same_edges; rw [sameI, sameI, decide_eq_true rfl, decide_eq_true rfl]; rfl
theorem sB (c : GCode List) : ∀ (n : Nat) (i : Int), m_same_Code_L0 c c n i = .go ()
  | 0, _ => rfl
  | n + 1, i => by rw [m_same_Code_L0, if_neg, sB c n]; rw [sameP, sameI, sameE]; simp
theorem same_refl (c : GCode List) : m_same_Code c c = true := by
  unfold m_same_Code
  rw [if_neg, sB]
  · rfl
  · rw [sameC, sameO]; simp
theorem known_true : m_l08_known = true := by kernel_rfl
theorem foldRaw_yes (c : GCode List) (hs : Slim c) : m_l08_FoldRaw c = true := by
  unfold m_l08_FoldRaw
  rw [fold_same c hs, same_refl, known_true]
  by_cases h : m_r06_CheckCode c = 0
  · simp [h]
  · have : m_r08_Fold c = c := by unfold m_r08_Fold; rw [if_pos h]
    rw [this, same_refl]; simp
end Go.Proofs.Ytbpccmnalhdpmaa
