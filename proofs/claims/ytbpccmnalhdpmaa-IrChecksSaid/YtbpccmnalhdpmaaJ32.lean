/- IrChecks: E18. -/
import Derived.Test.YtbpccmnalhdpmaaJ31
import Derived.Test.YtbpccmnalhdpmaaJ15
set_option linter.unusedVariables false
namespace Go.Ev
open Go.RowKit Go.Fw
noncomputable section
section
variable {P : Program} {Θ : T (Option TyI)} {CV : T (Option Site)} {σ : Nat → Int}
theorem cut_mono {η η' : Eta} {n n' : Pp} (h : (η.cut n).le η') (hn : n.toNat ≤ n'.toNat) : (η.cut n).le (η'.cut n') := fun r p hr => by
  have h1 := h r p hr
  unfold Eta.cut at hr ⊢
  split at hr
  · rw [if_pos (by omega)]; exact h1
  · cases hr
theorem cut_lt {η : Eta} {n r : Pp} (h : r.toNat < n.toNat) : η.cut n r = η r := by unfold Eta.cut; rw [if_pos h]
theorem cut_ge {η : Eta} {n r : Pp} (h : n.toNat ≤ r.toNat) : η.cut n r = none := by unfold Eta.cut; rw [if_neg (by omega)]
theorem cut_some {η : Eta} {n r : Pp} {p : Nat × Nat} (h : η.cut n r = some p) : r.toNat < n.toNat ∧ η r = some p := by
  unfold Eta.cut at h
  split at h
  · exact ⟨by assumption, h⟩
  · cases h
/-- a row that was laid before its turn -/
theorem HRel.adopt {η : Eta} {h : AH} {w : World} {row : Row} {b c : Nat} (hh : HRel P CV σ (η.cut h.nx) h w) (hb : η h.nx = some (b, c)) (hR : RowR P CV σ (η.cut h.nx) c w.heap[b]? row) (hbw : b < w.heap.size) (hun : ∀ r c', h.row r ≠ .d → η r ≠ some (b, c')) :
    HRel P CV σ (η.cut h.nx.succ) ⟨h.nx.succ, T.set .d row h.nx h.rows⟩ w := by
  have hsucc := Pp.toNat_succ h.nx
  have hle : (η.cut h.nx).le (η.cut h.nx.succ) := cut_mono (Eta.cut_le _ _) (by omega)
  have split : ∀ r p, η.cut h.nx.succ r = some p → r = h.nx ∨ (r ≠ h.nx ∧ η.cut h.nx r = some p) := by
    intro r p hr
    obtain ⟨h1, h2⟩ := cut_some hr
    by_cases e : r = h.nx
    · exact .inl e
    · have : r.toNat ≠ h.nx.toNat := fun e' => e (ppInj e')
      exact .inr ⟨e, by rw [cut_lt (by omega)]; exact h2⟩
  refine ⟨?_, ?_, ?_, ?_, ?_⟩
  · intro r r' b1 c1 c2 h1 h2 h3 h4
    rw [AH.row_set] at h1 h2
    rcases split r _ h3 with rfl | ⟨e1, h3⟩ <;> rcases split r' _ h4 with rfl | ⟨e2, h4⟩
    · rfl
    · rw [if_neg e2] at h2
      have := (cut_some h3).2
      rw [hb] at this
      injection this with this; injection this with this
      subst this
      exact absurd (cut_some h4).2 (hun r' c2 h2)
    · rw [if_neg e1] at h1
      have := (cut_some h4).2
      rw [hb] at this
      injection this with this; injection this with this
      subst this
      exact absurd (cut_some h3).2 (hun r c1 h1)
    · rw [if_neg e1] at h1
      rw [if_neg e2] at h2
      exact hh.inj r r' b1 c1 c2 h1 h2 h3 h4
  · intro r b1 c1 he
    rw [AH.row_set]
    rcases split r _ he with rfl | ⟨e1, h3⟩
    · rw [if_pos rfl]
      have := (cut_some he).2
      rw [hb] at this
      injection this with this; injection this with t1 t2
      subst t1; subst t2
      exact hR.mono hle
    · rw [if_neg e1]
      exact (hh.rows r b1 c1 h3).mono hle
  · intro r hr; exact cut_ge hr
  · intro r b1 c1 he
    rcases split r _ he with rfl | ⟨e1, h3⟩
    · have := (cut_some he).2
      rw [hb] at this
      injection this with this; injection this with t1 t2
      omega
    · exact hh.bnd r b1 c1 h3
  · intro r hr
    simp only at hr
    rw [AH.row_set, if_neg (fun e => by rw [e] at hr; omega)]
    exact hh.nix r (by omega)
theorem Stp.adopt {η0 η : Eta} {h0 h : AH} {w0 w : World} {row : Row} {b c : Nat} (s : Stp η0 h0 w0 (η.cut h.nx) h w) (hb : η h.nx = some (b, c)) (hbw : w0.heap.size ≤ b) : Stp η0 h0 w0 (η.cut h.nx.succ) ⟨h.nx.succ, T.set .d row h.nx h.rows⟩ w := by
  have hsucc := Pp.toNat_succ h.nx
  have hnx := s.nx
  refine ⟨s.le.trans (cut_mono (Eta.cut_le _ _) (by omega)), by simp only; omega, fun r hr hd => ?_, s.size, s.keep, fun r b1 c1 h1 h2 => ?_, s.os, s.tape, s.output, s.loops⟩
  · rw [AH.row_set, if_neg (fun e => by rw [e] at hr; omega)]
    exact s.dead r hr hd
  · obtain ⟨h3, h4⟩ := cut_some h2
    by_cases e : r = h.nx
    · subst e
      rw [hb] at h4
      injection h4 with h4; injection h4 with h4
      exact ⟨hnx, .inl (by omega)⟩
    · have : r.toNat ≠ h.nx.toNat := fun e' => e (ppInj e')
      exact s.new r b1 c1 h1 (by rw [cut_lt (by omega)]; exact h4)

theorem Pp.nat_eq : ∀ p : Pp, p.nat = p.toNat
  | .h => rfl
  | .l p => by show Nat.succ (Nat.mul 2 p.nat) = _; rw [Pp.nat_eq p]; rfl
  | .r p => by show Nat.succ (Nat.succ (Nat.mul 2 p.nat)) = _; rw [Pp.nat_eq p]; rfl
section
variable {η : Eta} {n : Pp}
theorem bel_lt {r : Pp} (h : Nat.ble (Nat.succ r.nat) n.nat = true) : r.toNat < n.toNat := by
  have := Nat.le_of_ble_eq_true h
  rw [Pp.nat_eq, Pp.nat_eq] at this; exact this
theorem belC_cut : ∀ {l : List (Pp × Nat)} {vs : List Value}, belC n.nat l = true → Dcaps η l vs → Dcaps (η.cut n) l vs
  | [], _, _, h => h
  | (r, o) :: l, _, hb, ⟨b, c, vs', h1, h2, h3⟩ => by
    obtain ⟨h4, h5⟩ := and_t (show and (Nat.ble (Nat.succ r.nat) n.nat) (belC n.nat l) = true from hb)
    exact ⟨b, c, vs', by rw [cut_lt (bel_lt h4)]; exact h1, h2, belC_cut h5 h3⟩
theorem belA_cut {a : A} {v : Value} (hb : belA n.nat a = true) (h : Da σ η a v) : Da σ (η.cut n) a v := by
  cases a with
  | s r o m => obtain ⟨b, c, c', h1, h2⟩ := h; exact ⟨b, c, c', by rw [cut_lt (bel_lt hb)]; exact h1, h2⟩
  | p r o => obtain ⟨b, c, h1, h2⟩ := h; exact ⟨b, c, by rw [cut_lt (bel_lt hb)]; exact h1, h2⟩
  | m r => obtain ⟨b, c, h1, h2⟩ := h; exact ⟨b, c, by rw [cut_lt (bel_lt hb)]; exact h1, h2⟩
  | f k c => obtain ⟨vs, h1, h2⟩ := h; exact ⟨vs, belC_cut hb h1, h2⟩
  | y r => obtain ⟨b, c, h1, h2⟩ := h; exact ⟨b, c, by rw [cut_lt (bel_lt hb)]; exact h1, h2⟩
  | _ => exact h
theorem belL_cut : ∀ {l : List A} {vs : List Value}, belL n.nat l = true → DL σ η l vs → DL σ (η.cut n) l vs
  | [], _, _, h => h
  | a :: l, _, hb, ⟨v, vs', h1, h2, h3⟩ => by
    obtain ⟨h4, h5⟩ := and_t (show and (belA n.nat a) (belL n.nat l) = true from hb)
    exact ⟨v, vs', h1, belA_cut h4 h2, belL_cut h5 h3⟩
theorem belU_cut {u : U} {v : Value} (hb : belU n.nat u = true) (h : Du σ η u v) : Du σ (η.cut n) u v := by
  cases u with
  | a x => exact belA_cut hb h
  | g l => obtain ⟨vs, h1, h2⟩ := h; exact ⟨vs, belL_cut hb h1, h2⟩
theorem belUL_cut : ∀ {l : List U} {vs : List Value}, belUL n.nat l = true → DUL σ η l vs → DUL σ (η.cut n) l vs
  | [], _, _, h => h
  | a :: l, _, hb, ⟨v, vs', h1, h2, h3⟩ => by
    obtain ⟨h4, h5⟩ := and_t (show and (belU n.nat a) (belUL n.nat l) = true from hb)
    exact ⟨v, vs', h1, belU_cut h4 h2, belUL_cut h5 h3⟩
theorem belV_cut {v : V} {v' : Value} (hb : belV n.nat v = true) (h : Dv σ η v v') : Dv σ (η.cut n) v v' := by
  cases v with
  | a x => exact belA_cut hb h
  | g l => obtain ⟨vs, h1, h2⟩ := h; exact ⟨vs, belL_cut hb h1, h2⟩
  | t l => obtain ⟨vs, h1, h2⟩ := h; exact ⟨vs, belUL_cut hb h1, h2⟩
  | x => exact h
end
/-! what is known of a region -/
structure Rec where
  o : Oper
  ix : Nat
  d : Option Pp
  g : Option (Pp × Bool)
  cls : Nat
  an : List Nat
  H : AH
  v : V
  row : Row
  wt : Bool
/-- the slots that an operation looks at -/
def reads (ops : Array Oper) (o : Oper) : List Nat := (o.op.operands.toList.filterMap fun | .tmp t => some t | _ => none) ++ (gSlot ops o.guard).toList
structure TrOk (P : Program) (CV : T (Option Site)) (σ : Nat → Int) (N : Nat) (ops : Array Oper) (n : Nat) (rc : Nat → Rec) (hA : Nat → AH) (fA : Nat → T V) : Prop where
  op : ∀ k, k < n → ops[(rc k).ix]? = some (rc k).o ∧ cvD N (rc k).o.dst = some (rc k).d ∧ cvG ops (rc k).o.guard = some (rc k).g ∧ ((rc k).cls ≠ 3 → ∀ c, (rc k).o.op ≠ .defer c)
  fr : ∀ k, k < n → fA (k + 1) = setO (fA k) (rc k).d (rc k).v
  nx : ∀ k, k < n → (hA k).nx.toNat ≤ (hA (k + 1)).nx.toNat
  no : ∀ k, k < n → (rc k).wt = false → gOk (fA k) (rc k).g = some false ∧ (rc k).v = .x ∧ hA (k + 1) = hA k
  yes : ∀ k, k < n → (rc k).wt = true → gOk (fA k) (rc k).g = some true
  p : ∀ k, k < n → (rc k).wt = true → (rc k).cls = 0 → PDoes P σ (fA k) (rc k).o (rc k).v ∧ hA (k + 1) = hA k
  r : ∀ k, k < n → (rc k).wt = true → (rc k).cls = 1 → RDoes P CV σ (fA k) (rc k).H (rc k).o (rc k).v ∧ hA (k + 1) = hA k
  a : ∀ k, k < n → (rc k).wt = true → (rc k).cls = 2 → ∃ mk, ADoes P CV σ (fA k) (rc k).o (rc k).row mk ∧ (rc k).v = .a (mk (hA k).nx) ∧ hA (k + 1) = ⟨(hA k).nx.succ, T.set .d (rc k).row (hA k).nx (hA k).rows⟩
  c : ∀ k, k < n → (rc k).wt = true → (rc k).cls = 3 → ODoes P CV σ (fA k) (hA k) (rc k).o (rc k).v (hA (k + 1))
  cls : ∀ k, k < n → (rc k).cls ≤ 3
  Hk : ∀ k, k < n → ∃ m, m ≤ k ∧ (rc k).H = hA m ∧ (m = 0 ∨ (rc (m - 1)).cls = 3) ∧ ∀ j, m ≤ j → j < k → (rc j).cls ≠ 3
  slot : ∀ j k, j < k → k < n → ∀ p, (((rc j).d = some p ∧ (p.toNat ∈ reads ops (rc k).o ∨ (rc k).d = some p)) ∨ ((rc k).d = some p ∧ p.toNat ∈ reads ops (rc j).o)) → (rc j).ix ∈ (rc k).an
  chn : ∀ j k, j < k → k < n → (rc k).cls = 3 → ((rc j).cls = 3 ∨ (rc j).cls = 2) → (rc j).ix ∈ (rc k).an
  rdc : ∀ j k, j < k → k < n → (rc j).cls = 3 → (rc k).cls = 1 → (rc j).ix ∈ (rc k).an
  chk : ∀ j k, j < k → k < n → (rc j).cls = 1 → (rc j).wt = true → (rc k).cls = 3 → (rc j).ix ∉ (rc k).an → RDoes P CV σ (fA j) (hA (k + 1)) (rc j).o (rc j).v ∧ belV (hA j).nx.nat (rc j).v = true
  all : ∀ i, i < ops.size → ∃ k, k < n ∧ (rc k).ix = i
  one : ∀ j k, j < n → k < n → (rc j).ix = (rc k).ix → j = k
  anc : ∀ k, k < n → ∀ L : Array Bool, Closed ops L → L.getD (rc k).ix false = true → ∀ i ∈ (rc k).an, L.getD i false = true
  top : ∀ k, k < n → ∀ e ∈ (rc k).o.after, Region.binds .any e = true → ∃ j, j < k ∧ (rc j).ix = e.on
  ready : ∀ k, k < n → ∀ L : Array Bool, Closed ops L → (∀ e ∈ (rc k).o.after, Region.binds .any e = true → L.getD e.on false = true) → ∀ i ∈ (rc k).an, L.getD i false = true
section
variable {N : Nat} {ops : Array Oper} {n : Nat} {rc : Nat → Rec} {hA : Nat → AH} {fA : Nat → T V} (tk : TrOk P CV σ N ops n rc hA fA)
include tk in
theorem TrOk.nxm : ∀ {j k : Nat}, j ≤ k → k ≤ n → (hA j).nx.toNat ≤ (hA k).nx.toNat := by
  intro j k
  induction k with
  | zero => intro h _; rw [show j = 0 by omega]; exact Nat.le_refl _
  | succ k ih =>
    intro h hk
    by_cases e : j = k + 1
    · rw [e]; exact Nat.le_refl _
    · exact Nat.le_trans (ih (by omega) (by omega)) (tk.nx k (by omega))
include tk in
/-- a slot that nobody writes between -/
theorem TrOk.same {p : Pp} : ∀ {j k : Nat}, j ≤ k → k ≤ n → (∀ i, j ≤ i → i < k → (rc i).d ≠ some p) → (fA k).get .x p = (fA j).get .x p := by
  intro j k
  induction k with
  | zero => intro h _ _; rw [show j = 0 by omega]
  | succ k ih =>
    intro h hk hno
    by_cases e : j = k + 1
    · rw [e]
    · rw [tk.fr k (by omega), ← ih (by omega) (by omega) (fun i h1 h2 => hno i h1 (by omega))]
      have := hno k (by omega) (by omega)
      unfold setO
      cases hd : (rc k).d with
      | none => rfl
      | some q =>
        simp only
        rw [T.get_set, if_neg (fun e => this (by rw [hd, e]))]
end
end
end
end Go.Ev

