/- IrChecks: E21. -/
import Derived.Test.YtbpccmnalhdpmaaJ34
set_option linter.unusedVariables false
namespace Go.Ev
open Go.RowKit Go.Fw
noncomputable section
section
variable {P : Program} {CV : T (Option Site)} {σ : Nat → Int} {N : Nat} {ops : Array Oper} {n : Nat} {rc : Nat → Rec} {hA : Nat → AH} {fA : Nat → T V}
variable (tk : TrOk P CV σ N ops n rc hA fA) {η0 : Eta} {w0 : World} {F : Fence} {base : Nat} {Q : Exit → Act → World → Prop}
include tk in
theorem Inv.step (hdom : ∀ r : Pp, (hA 0).nx.toNat ≤ r.toNat → η0 r = none) {L : Array Bool} {a : Act} {w : World} {η : Eta} {m : Nat} (I : Inv P CV σ N n rc hA fA η0 w0 F base L a w η m) (hs : L.size = ops.size) (hcl : Closed ops L) {k : Nat} (hk : k < n) (hun : ¬ dn rc L k)
    (hrd : ∀ e ∈ (rc k).o.after, Region.binds .any e = true → L.getD e.on false = true) :
    wpOpIn F 0 P ops Q (rc k).ix (fun a' w' => ∃ η' m', Inv P CV σ N n rc hA fA η0 w0 F base (L.setIfInBounds (rc k).ix true) a' w' η' m') a w := by
  obtain ⟨ho, hd, hg, hnd⟩ := tk.op k hk
  have han := tk.ready k hk L hcl hrd
  have hread : ∀ p : Pp, p.toNat ∈ reads ops (rc k).o → Dv σ (η.cut (hA k).nx) ((fA k).get .x p) (a.tmps.getD p.toNat undef) := fun p hp => I.read tk hcl hk hun han hp
  have hslot : ∀ t, gSlot ops (rc k).o.guard = some t → ∀ p : Pp, p.toNat = t → Dv σ (η.cut (hA k).nx) ((fA k).get .x p) (a.tmps.getD t undef) := by
    intro t ht p hp
    subst hp
    exact hread p (by unfold reads; rw [ht]; simp)
  have hX : XR σ (η.cut (hA k).nx) (fA k) (frOf a) (rc k).o.op.operands.toList := by
    intro t ht p hp
    subst hp
    exact hread p (by unfold reads; exact List.mem_append_left _ (List.mem_filterMap.2 ⟨_, ht, rfl⟩))
  have hnx := tk.nx k hk
  unfold wpOpIn
  simp only [ho]
  cases hw : (rc k).wt with
  | false =>
    obtain ⟨h1, h2, h3⟩ := tk.no k hk hw
    have hwant := wanted_of (σ := σ) (η := η.cut (hA k).nx) (tmps := a.tmps) hg h1 hslot
    rw [if_neg (by rw [hwant]; simp)]
    refine ⟨fun f _ => I.F.fn f, ?_⟩
    by_cases hc : (rc k).cls = 3
    · obtain ⟨hmk, hbef⟩ := I.before tk hk hun hc han
      obtain ⟨b1, b2, b3⟩ := I.absorb tk k hmk (by omega) hbef
      obtain ⟨η2, I2⟩ := I.chain tk hdom hs hcl hk hun hc han (η' := η.cut (hA k).nx) (w' := w) (v' := undef) (by rw [h2]; rfl) (by rw [h3]; exact b1) (by rw [h3]; exact Stp.refl _ _ _)
      exact ⟨η2, _, I2⟩
    · exact ⟨η, m, I.plain tk hs hcl hk hun hc (fun _ => hw) (by rw [h2]; rfl)⟩
  | true =>
    have hwant := wanted_of (σ := σ) (η := η.cut (hA k).nx) (tmps := a.tmps) hg (tk.yes k hk hw) hslot
    rw [if_pos hwant]
    have hcl' := tk.cls k hk
    rcases (show (rc k).cls = 0 ∨ (rc k).cls = 1 ∨ (rc k).cls = 2 ∨ (rc k).cls = 3 by omega) with h0 | h0 | h0 | h0
    · obtain ⟨h1, h2⟩ := tk.p k hk hw h0
      obtain ⟨v', h3, h4⟩ := h1 (η.cut (hA k).nx) (frOf a) w hX
      refine wpIn_val I.F (hnd (by omega)) h3 ⟨η, m, I.plain tk hs hcl hk hun (by omega) (by omega) ?_⟩
      rw [h2]; exact h4
    · obtain ⟨h1, h2⟩ := tk.r k hk hw h0
      obtain ⟨m1, hm1, hH, hmB, hno⟩ := tk.Hk k hk
      -- the memory that it reads is the one of its turn, or has been looked at again
      have fin : ∀ v', Dv σ (η.cut (hA k).nx) (rc k).v v' → (execOp (ev (frOf a)) (rc k).o).run P w = .ok (.value v') w → (rc k).o.wpIn F 0 P a w (fun a' w' => ∃ η' m', Inv P CV σ N n rc hA fA η0 w0 F base (L.setIfInBounds (rc k).ix true) a' w' η' m') Q := fun v' h4 h3 => by
        refine wpIn_val I.F (hnd (by omega)) h3 ⟨η, m, I.plain tk hs hcl hk hun (by omega) (by omega) ?_⟩
        rw [h2]; exact h4
      have hXη : XR σ η (fA k) (frOf a) (rc k).o.op.operands.toList := fun t ht p hp => (hX t ht p hp).mono (Eta.cut_le _ _)
      by_cases e : m = m1
      · have hcc : (η.cut (hA k).nx).cut (rc k).H.nx = η.cut (hA m).nx := by
          rw [hH, ← e]
          have hmk := tk.nxm (j := m) (k := k) (by omega) (by omega)
          funext r
          unfold Eta.cut
          by_cases h5 : r.toNat < (hA m).nx.toNat
          · rw [if_pos h5, if_pos h5, if_pos (by omega)]
          · rw [if_neg h5, if_neg h5]
        obtain ⟨v', h3, h4⟩ := h1 (η.cut (hA k).nx) (frOf a) w hX (by rw [hcc, hH, ← e]; exact I.hh)
        exact fin v' h4 h3
      · have hlt : m1 < m := by
          rcases Nat.lt_or_ge m m1 with h3 | h3
          · exfalso
            rcases hmB with h4 | h4
            · omega
            · have h5 := tk.rdc (m1 - 1) k (by omega) hk h4 h0
              have h6 := (I.chn (m1 - 1) (by omega) h4).1 (han _ h5)
              omega
          · omega
        have hm3 : (rc (m - 1)).cls = 3 := by
          rcases I.mB with h4 | h4
          · omega
          · exact h4
        have hmle := I.mle
        have hdm : dn rc L (m - 1) := (I.chn (m - 1) (by omega) hm3).2 (by omega)
        have hkm : k < m - 1 := by
          rcases Nat.lt_or_ge k (m - 1) with h4 | h4
          · exact h4
          · exfalso
            by_cases e2 : m - 1 = k
            · rw [e2] at hm3; omega
            · exact hno (m - 1) (by omega) (by omega) hm3
        obtain ⟨hR, hbel⟩ := tk.chk k (m - 1) hkm (by omega) h0 hw hm3 (fun hin => hun (tk.anc (m - 1) (by omega) L hcl hdm _ hin))
        rw [show m - 1 + 1 = m by omega] at hR
        obtain ⟨v', h3, h4⟩ := hR η (frOf a) w hXη I.hh
        exact fin v' (belV_cut hbel h4) h3
    · obtain ⟨mk, ⟨hne, h1⟩, h2, h3⟩ := tk.a k hk hw h0
      obtain ⟨v', ob, c, h4, h5, h6⟩ := h1 (η.cut (hA k).nx) (frOf a) w hX
      exact wpIn_val I.F (hnd (by omega)) h4 ⟨_, m, I.lay tk hs hcl hk hun h0 hw hne h5 h6 h2 h3⟩
    · obtain ⟨hmk, hbef⟩ := I.before tk hk hun h0 han
      obtain ⟨b1, b2, b3⟩ := I.absorb tk k hmk (by omega) hbef
      refine tk.c k hk hw h0 (η.cut (hA k).nx) a w F Q _ I.F hX b1 fun v' w' η' e1 e2 e3 => ?_
      obtain ⟨η2, I2⟩ := I.chain tk hdom hs hcl hk hun h0 han e1 e2 e3
      exact ⟨η2, _, I2⟩
include tk in
/-- behind all of it -/
theorem Inv.finish {L : Array Bool} {a : Act} {w : World} {η : Eta} {m : Nat} (I : Inv P CV σ N n rc hA fA η0 w0 F base L a w η m) (hall : ∀ k, k < n → dn rc L k) :
    Fok F w ∧ HRel P CV σ (η.cut (hA n).nx) (hA n) w ∧ FrR σ (η.cut (hA n).nx) (fA n) a.tmps ∧ a.tmps.size = N ∧ DfR base w a.defers ∧ Stp η0 (hA 0) w0 (η.cut (hA n).nx) (hA n) w := by
  have hno : ∀ j, m ≤ j → j < n → (rc j).cls ≠ 3 ∧ ((rc j).cls = 2 → (rc j).wt = true → dn rc L j) := fun j h1 h2 => ⟨fun e => by have := (I.chn j h2 e).1 (hall j h2); omega, fun _ _ => hall j h2⟩
  obtain ⟨b1, b2, _⟩ := I.absorb tk n I.mle (Nat.le_refl _) hno
  refine ⟨I.F, b1, fun p => ?_, I.N, I.df, b2⟩
  obtain ⟨k, h1, h2, h3, h4⟩ := I.slot p
  rw [tk.same h1 (Nat.le_refl _) (fun i hi1 hi2 => h2 i hi1 hi2 (hall i hi2))]
  exact h4.mono (cut_mono (Eta.cut_le _ _) (tk.nxm h1 (Nat.le_refl _)))
include tk in
theorem drawn (hdom : ∀ r : Pp, (hA 0).nx.toNat ≤ r.toNat → η0 r = none)
    (hQ : ∀ η a w, Fok F w → HRel P CV σ η (hA n) w → FrR σ η (fA n) a.tmps → a.tmps.size = N → DfR base w a.defers → Stp η0 (hA 0) w0 η (hA n) w → Q .normal a w) :
    ∀ (f : Nat) (L : Array Bool) (a : Act) (w : World), L.size = ops.size → Closed ops L → cntF L ≤ f → (∃ η m, Inv P CV σ N n rc hA fA η0 w0 F base L a w η m) → wpAnyIn F 0 P .any ops Q f L a w := by
  have fin : ∀ (L : Array Bool) (a : Act) (w : World), L.size = ops.size → Closed ops L → Region.ready .any ops L = [] → (∃ η m, Inv P CV σ N n rc hA fA η0 w0 F base L a w η m) → Q .normal a w := by
    intro L a w hs hcl hr ⟨η, m, I⟩
    have hall : ∀ k, k < n → dn rc L k := by
      intro k
      induction k using Nat.strongRecOn with
      | _ k ih =>
        intro hk
        cases hd : L.getD (rc k).ix false with
        | true => exact hd
        | false =>
          exfalso
          obtain ⟨ho, _⟩ := tk.op k hk
          have hlt : (rc k).ix < L.size := by rw [hs]; exact (Array.getElem?_eq_some_iff.1 ho).1
          have hmem : (rc k).ix ∈ Region.ready .any ops L := mem_ready.2 ⟨by
            simp only [Array.getD_eq_getD_getElem?] at hd ⊢
            rw [Array.getElem?_eq_getElem hlt] at hd ⊢
            simpa using hd, (rc k).o, ho, fun e he hb => by
            obtain ⟨j, hj, hj2⟩ := tk.top k hk e he hb
            rw [← hj2]
            exact ih j hj (by omega)⟩
          rw [hr] at hmem; cases hmem
    obtain ⟨h1, h2, h3, h4, h5, h6⟩ := I.finish tk hall
    exact hQ _ a w h1 h2 h3 h4 h5 h6
  intro f
  induction f with
  | zero =>
    intro L a w hs hcl hc hI
    have hr := cntF_zero (ops := ops) (by omega : cntF L = 0)
    exact ⟨hr, fin L a w hs hcl hr hI⟩
  | succ f ih =>
    intro L a w hs hcl hc hI
    refine ⟨fun hr => fin L a w hs hcl hr hI, fun i hi => ?_⟩
    obtain ⟨hun, oi, hoi, hrd⟩ := mem_ready.1 hi
    obtain ⟨k, hk, rfl⟩ := tk.all i (Array.getElem?_eq_some_iff.1 hoi).1
    obtain ⟨ho, _⟩ := tk.op k hk
    rw [ho] at hoi
    cases hoi
    have hcs := cntF_set hun
    obtain ⟨η, m, I⟩ := hI
    have hun' : ¬ dn rc L k := by
      intro hd
      unfold dn at hd
      have hlt : (rc k).ix < L.size := by rw [hs]; exact (Array.getElem?_eq_some_iff.1 ho).1
      simp only [Array.getD_eq_getD_getElem?] at hd hun
      rw [Array.getElem?_eq_getElem hlt] at hd hun
      simp only [Option.getD_some] at hd hun
      rw [hd] at hun; cases hun
    exact wpOpIn_mono (fun a' w' h' => ih _ a' w' (by simpa using hs) (hcl.step hi) (by omega) h') (I.step tk hdom hs hcl hk hun' hrd)
end
end
end Go.Ev

