/- IrChecks: E19. -/
import Derived.Test.YtbpccmnalhdpmaaJ32
set_option linter.unusedVariables false
namespace Go.Ev
open Go.RowKit Go.Fw
noncomputable section
section
variable {P : Program} {CV : T (Option Site)} {σ : Nat → Int} {N : Nat} {ops : Array Oper} {n : Nat} {rc : Nat → Rec} {hA : Nat → AH} {fA : Nat → T V}
def dn (rc : Nat → Rec) (L : Array Bool) (k : Nat) : Prop := L.getD (rc k).ix false = true
/-- a new row that has been laid, but not come up yet by the evaluator's order -/
def Loose (n : Nat) (rc : Nat → Rec) (L : Array Bool) (m k : Nat) : Prop := k < n ∧ m ≤ k ∧ (rc k).cls = 2 ∧ (rc k).wt = true ∧ dn rc L k
structure Inv (P : Program) (CV : T (Option Site)) (σ : Nat → Int) (N : Nat) (n : Nat) (rc : Nat → Rec) (hA : Nat → AH) (fA : Nat → T V) (η0 : Eta) (w0 : World) (F : Fence) (base : Nat) (L : Array Bool) (a : Act) (w : World) (η : Eta) (m : Nat) : Prop where
  mle : m ≤ n
  chn : ∀ k, k < n → (rc k).cls = 3 → (dn rc L k ↔ k < m)
  mB : m = 0 ∨ (rc (m - 1)).cls = 3
  F : Fok F w
  hh : HRel P CV σ (η.cut (hA m).nx) (hA m) w
  st : Stp η0 (hA 0) w0 (η.cut (hA m).nx) (hA m) w
  nam : ∀ r p, η r = some p → r.toNat < (hA 0).nx.toNat ∨ ∃ k, k < n ∧ dn rc L k ∧ (hA k).nx.toNat ≤ r.toNat ∧ r.toNat < (hA (k + 1)).nx.toNat
  loose : ∀ k, Loose n rc L m k → ∃ b c, η (hA k).nx = some (b, c) ∧ RowR P CV σ (η.cut (hA k).nx) c w.heap[b]? (rc k).row ∧ w0.heap.size ≤ b ∧ b < w.heap.size ∧ ∀ r c', (hA m).row r ≠ .d → η r ≠ some (b, c')
  dist : ∀ j k, Loose n rc L m j → Loose n rc L m k → ∀ b c c', η (hA j).nx = some (b, c) → η (hA k).nx = some (b, c') → j = k
  slot : ∀ p : Pp, ∃ k, k ≤ n ∧ (∀ i, k ≤ i → i < n → dn rc L i → (rc i).d ≠ some p) ∧ (k = 0 ∨ (dn rc L (k - 1) ∧ (rc (k - 1)).d = some p)) ∧ Dv σ (η.cut (hA k).nx) ((fA k).get .x p) (a.tmps.getD p.toNat undef)
  N : a.tmps.size = N
  df : DfR base w a.defers
variable (tk : TrOk P CV σ N ops n rc hA fA) {η0 : Eta} {w0 : World} {F : Fence} {base : Nat} {L : Array Bool} {a : Act} {w : World} {η : Eta} {m : Nat}
include tk in
theorem Inv.absorb (I : Inv P CV σ N n rc hA fA η0 w0 F base L a w η m) : ∀ k, m ≤ k → k ≤ n → (∀ j, m ≤ j → j < k → (rc j).cls ≠ 3 ∧ ((rc j).cls = 2 → (rc j).wt = true → dn rc L j)) →
    HRel P CV σ (η.cut (hA k).nx) (hA k) w ∧ Stp η0 (hA 0) w0 (η.cut (hA k).nx) (hA k) w ∧ ∀ j, Loose n rc L m j → k ≤ j → ∀ b c, η (hA j).nx = some (b, c) → ∀ r c', (hA k).row r ≠ .d → η r ≠ some (b, c') := by
  intro k
  induction k with
  | zero =>
    intro h1 h2 h3
    have : m = 0 := by omega
    subst this
    refine ⟨I.hh, I.st, fun j hj _ b c hb r c' hl => ?_⟩
    obtain ⟨b1, c1, e1, _, _, _, e5⟩ := I.loose j hj
    rw [hb] at e1
    injection e1 with e1; injection e1 with e1 e2
    rw [e1]; exact e5 r c' hl
  | succ k ih =>
    intro h1 h2 h3
    by_cases e : m = k + 1
    · rw [← e]
      refine ⟨I.hh, I.st, fun j hj _ b c hb r c' hl => ?_⟩
      obtain ⟨b1, c1, e1, _, _, _, e5⟩ := I.loose j hj
      rw [hb] at e1
      injection e1 with e1; injection e1 with e1 e2
      rw [e1]; exact e5 r c' hl
    · obtain ⟨i1, i2, i3⟩ := ih (by omega) (by omega) (fun j hj1 hj2 => h3 j hj1 (by omega))
      have hkn : k < n := by omega
      obtain ⟨hc3, hA2⟩ := h3 k (by omega) (by omega)
      have same : hA (k + 1) = hA k → HRel P CV σ (η.cut (hA (k + 1)).nx) (hA (k + 1)) w ∧ Stp η0 (hA 0) w0 (η.cut (hA (k + 1)).nx) (hA (k + 1)) w ∧ ∀ j, Loose n rc L m j → k + 1 ≤ j → ∀ b c, η (hA j).nx = some (b, c) → ∀ r c', (hA (k + 1)).row r ≠ .d → η r ≠ some (b, c') := by
        intro e
        rw [e]
        exact ⟨i1, i2, fun j hj hk => i3 j hj (by omega)⟩
      cases hw : (rc k).wt with
      | false => exact same (tk.no k hkn hw).2.2
      | true =>
        have hcl := tk.cls k hkn
        rcases (show (rc k).cls = 0 ∨ (rc k).cls = 1 ∨ (rc k).cls = 2 by omega) with h0 | h0 | h0
        · exact same (tk.p k hkn hw h0).2
        · exact same (tk.r k hkn hw h0).2
        · obtain ⟨mk, _, _, e3⟩ := tk.a k hkn hw h0
          have hl : Loose n rc L m k := ⟨hkn, by omega, h0, hw, hA2 h0 hw⟩
          obtain ⟨b, c, e4, e5, e6, e7, _⟩ := I.loose k hl
          have hun := i3 k hl (Nat.le_refl _) b c e4
          rw [e3]
          refine ⟨i1.adopt e4 e5 e7 hun, i2.adopt e4 e6, fun j hj hk b' c' hb r c'' hr hη => ?_⟩
          rw [AH.row_set] at hr
          by_cases er : r = (hA k).nx
          · subst er
            have := I.dist k j hl hj b' c'' c' hη hb
            omega
          · rw [if_neg er] at hr
            exact i3 j hj (by omega) b' c' hb r c'' hr hη
include tk in
/-- what an operation looks at, when it comes up -/
theorem Inv.read (I : Inv P CV σ N n rc hA fA η0 w0 F base L a w η m) (hcl : Closed ops L) {k : Nat} (hk : k < n) (hun : ¬ dn rc L k) (han : ∀ i ∈ (rc k).an, L.getD i false = true) {p : Pp} (hp : p.toNat ∈ reads ops (rc k).o) :
    Dv σ (η.cut (hA k).nx) ((fA k).get .x p) (a.tmps.getD p.toNat undef) := by
  obtain ⟨j, h1, h2, h3, h4⟩ := I.slot p
  have hjk : j ≤ k := by
    rcases h3 with h3 | ⟨h3, h5⟩
    · omega
    · rcases Nat.lt_or_ge (j - 1) k with h6 | h6
      · omega
      · have hne : j - 1 ≠ k := fun e => by rw [e] at h3; exact hun h3
        have hj0 : 0 < j := by
          rcases Nat.eq_zero_or_pos j with h7 | h7
          · subst h7
            have : k = 0 := by omega
            subst this
            exact absurd h3 hun
          · exact h7
        have := tk.slot k (j - 1) (by omega) (by omega) p (.inr ⟨h5, hp⟩)
        exact absurd (tk.anc (j - 1) (by omega) L hcl h3 _ this) hun
  have hno : ∀ i, j ≤ i → i < k → (rc i).d ≠ some p := fun i hi1 hi2 hd => by
    have := tk.slot i k hi2 hk p (.inl ⟨hd, .inl hp⟩)
    exact h2 i hi1 (by omega) (han _ this) hd
  rw [tk.same hjk (by omega) hno]
  exact h4.mono (cut_mono (Eta.cut_le _ _) (tk.nxm hjk (by omega)))
theorem dn_set (tk : TrOk P CV σ N ops n rc hA fA) {k : Nat} (hs : L.size = ops.size) (hk : k < n) {i : Nat} (hi : i < n) : dn rc (L.setIfInBounds (rc k).ix true) i ↔ (i = k ∨ dn rc L i) := by
  have hlt : (rc k).ix < L.size := by rw [hs]; exact (Array.getElem?_eq_some_iff.1 (tk.op k hk).1).1
  unfold dn
  by_cases e : i = k
  · subst e
    simp [hlt]
  · have hne : (rc k).ix ≠ (rc i).ix := fun e' => e (tk.one i k hi hk e'.symm)
    simp only [Array.getD_eq_getD_getElem?]
    rw [Array.getElem?_setIfInBounds_ne hne]
    simp [e]
include tk in
/-- the slots, behind an operation -/
theorem Inv.slotN (I : Inv P CV σ N n rc hA fA η0 w0 F base L a w η m) (hs : L.size = ops.size) (hcl : Closed ops L) {k : Nat} (hk : k < n) (hun : ¬ dn rc L k) {η2 : Eta} (hle : η.le η2) {v' : Value} (hv : Dv σ (η2.cut (hA (k + 1)).nx) (rc k).v v') :
    ∀ p : Pp, ∃ j, j ≤ n ∧ (∀ i, j ≤ i → i < n → dn rc (L.setIfInBounds (rc k).ix true) i → (rc i).d ≠ some p) ∧ (j = 0 ∨ (dn rc (L.setIfInBounds (rc k).ix true) (j - 1) ∧ (rc (j - 1)).d = some p)) ∧ Dv σ (η2.cut (hA j).nx) ((fA j).get .x p) ((a.put (rc k).o.dst v').tmps.getD p.toNat undef) := by
  intro p
  by_cases hd : (rc k).d = some p
  · refine ⟨k + 1, by omega, fun i hi1 hi2 hdi hdp => ?_, .inr ⟨(dn_set tk hs hk hk).2 (.inl rfl), hd⟩, ?_⟩
    · rcases (dn_set tk hs hk hi2).1 hdi with e | e
      · omega
      · have := tk.slot k i (by omega) hi2 p (.inl ⟨hd, .inr hdp⟩)
        exact hun (tk.anc i hi2 L hcl e _ this)
    · have hfr : (fA (k + 1)).get .x p = (rc k).v := by
        rw [tk.fr k hk, hd]
        show (T.set .x (rc k).v p (fA k)).get .x p = _
        rw [T.get_set, if_pos rfl]
      rw [hfr]
      obtain ⟨h1, h2, _⟩ := tk.op k hk
      have hput : (a.put (rc k).o.dst v').tmps.getD p.toNat undef = v' := by
        cases hdst : (rc k).o.dst with
        | none =>
          obtain ⟨_, h3, _⟩ := tk.op k hk
          rw [hdst, hd] at h3; cases h3
        | some q =>
          obtain ⟨_, h3, _⟩ := tk.op k hk
          rw [hdst, hd] at h3
          obtain ⟨h4, p', h5, h6⟩ := cvD_some h3
          cases h5
          have hsz := I.N
          have hlt : q < a.tmps.size := by rw [hsz]; exact h4
          show (a.tmps.setIfInBounds q v').getD p.toNat undef = v'
          rw [h6]
          simp [hlt]
      rw [hput]; exact hv
  · obtain ⟨j, h1, h2, h3, h4⟩ := I.slot p
    refine ⟨j, h1, fun i hi1 hi2 hdi => ?_, ?_, ?_⟩
    · rcases (dn_set tk hs hk hi2).1 hdi with e | e
      · rw [e]; exact hd
      · exact h2 i hi1 hi2 e
    · rcases h3 with h3 | ⟨h3, h5⟩
      · exact .inl h3
      · by_cases hj : j = 0
        · exact .inl hj
        · exact .inr ⟨(dn_set tk hs hk (by omega)).2 (.inr h3), h5⟩
    · have hput : (a.put (rc k).o.dst v').tmps.getD p.toNat undef = a.tmps.getD p.toNat undef := by
        cases hdst : (rc k).o.dst with
        | none => rfl
        | some q =>
          obtain ⟨_, h3', _⟩ := tk.op k hk
          rw [hdst] at h3'
          obtain ⟨_, p', h5, h6⟩ := cvD_some h3'
          have hne : q ≠ p.toNat := fun e => hd (by rw [h5, ppInj (p := p') (q := p) (h6.trans e)])
          simp only [Act.put, Array.getD_eq_getD_getElem?]
          rw [Array.getElem?_setIfInBounds_ne hne]
      rw [hput]
      exact h4.mono (cut_mono ((Eta.cut_le _ _).trans hle) (Nat.le_refl _))
include tk in
theorem Inv.range (I : Inv P CV σ N n rc hA fA η0 w0 F base L a w η m) {k : Nat} (hk : k < n) (hun : ¬ dn rc L k) {r : Pp} (h1 : (hA k).nx.toNat ≤ r.toNat) (h2 : r.toNat < (hA (k + 1)).nx.toNat) : η r = none := by
  cases hr : η r with
  | none => rfl
  | some p =>
    rcases I.nam r p hr with h3 | ⟨j, h3, h4, h5, h6⟩
    · have := tk.nxm (j := 0) (k := k) (by omega) (by omega); omega
    · have hne : j ≠ k := fun e => by rw [e] at h4; exact hun h4
      rcases Nat.lt_or_ge j k with h7 | h7
      · have := tk.nxm (j := j + 1) (k := k) (by omega) (by omega); omega
      · have := tk.nxm (j := k + 1) (k := j) (by omega) (by omega); omega
end
end
end Go.Ev

