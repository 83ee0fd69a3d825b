/- IrChecks: E23. -/
import Derived.Test.YtbpccmnalhdpmaaJ36
set_option linter.unusedVariables false
namespace Go.Ev
open Go.RowKit Go.Fw
noncomputable section
/-- what is known of an operation ahead of the run -/
structure Sta where
  o : Oper
  ix : Nat
  d : Option Pp
  g : Option (Pp × Bool)
  cls : Nat
  an : List Nat
  chk : List Bool
  rd : List Nat
def nR : List Sta → Nat → Nat
  | _, 0 => 0
  | [], _ + 1 => 0
  | s :: ss, k + 1 => (bif Nat.beq s.cls 1 then 1 else 0) + nR ss k
def Al (Θ : T (Option TyI)) : List D → List Sta → Prop
  | [], [] => True
  | d :: l, s :: ss => IsI Θ s.o s.d s.g d.i ∧ s.cls = clsI d.i ∧ s.chk = d.chk ∧ Al Θ l ss
  | _, _ => False
section
variable {P : Program} {Θ : T (Option TyI)} {CV : T (Option Site)} {σ : Nat → Int} {Γ : Env} (hΘ : Θ.All (TyQ P)) (hΓ : Γ.Ok σ) {CR : Nat → Code → RC → Prop} (hfn : Γ.fns.All (FnQ P Θ CR)) {rn : Rn} (hrn : RnOk P CV CR σ Γ rn)
def cns {α : Type} (x : α) (f : Nat → α) : Nat → α
  | 0 => x
  | k + 1 => f k
include hΘ hΓ hfn hrn in
theorem drwK_some : ∀ {l : List D} {ss : List Sta} {ps : List (Option Pe)} {fr : T V} {H h : AH} {K : T V → AH → R} {out : Out}, Al Θ l ss → PsOk Θ ps → drwK l Γ rn ps fr H h K = some out →
    ∃ (fA : Nat → T V) (hA : Nat → AH) (vA : Nat → V) (rA : Nat → Row) (wA : Nat → Bool) (HA : Nat → AH), K (fA ss.length) (hA ss.length) = some out ∧ fA 0 = fr ∧ hA 0 = h ∧
      (∀ k s, ss[k]? = some s → Loc P CV σ (fA k) (fA (k + 1)) (hA k) (hA (k + 1)) s.o s.d s.g s.cls (HA k) (vA k) (rA k) (wA k)) ∧
      (∀ k s, ss[k]? = some s → (HA k = H ∧ ∀ j sj, j < k → ss[j]? = some sj → sj.cls ≠ 3) ∨ ∃ m, 0 < m ∧ m ≤ k ∧ HA k = hA m ∧ (∃ q, ss[m - 1]? = some q ∧ q.cls = 3) ∧ ∀ j sj, m ≤ j → j < k → ss[j]? = some sj → sj.cls ≠ 3) ∧
      (∀ k s t p, ss[k]? = some s → s.cls = 3 → ps[t]? = some (some p) → s.chk[nR ss k + t]? = some true → Rck P Θ CV σ p (hA (k + 1))) ∧
      (∀ j k sj s, j < k → ss[j]? = some sj → sj.cls = 1 → wA j = true → ss[k]? = some s → s.cls = 3 → s.chk[nR (ss.drop (j + 1)) (k - j - 1)]? = some true → RDoes P CV σ (fA j) (hA (k + 1)) sj.o (vA j) ∧ belV (hA j).nx.nat (vA j) = true)
  | [], [], ps, fr, H, h, K, out, _, _, hk => ⟨fun _ => fr, fun _ => h, fun _ => .x, fun _ => .d, fun _ => false, fun _ => h, hk, rfl, rfl, fun k s hs => by simp at hs, fun k s hs => by simp at hs, fun k s t p hs => by simp at hs, fun j k sj s _ hs => by simp at hs⟩
  | [], _ :: _, _, _, _, _, _, _, ha, _, _ => ha.elim
  | _ :: _, [], _, _, _, _, _, _, ha, _, _ => ha.elim
  | d :: l, s :: ss, ps, fr, H, h, K, out, ha, hps, hk => by
    obtain ⟨a1, a2, a3, a4⟩ := ha
    obtain ⟨ps', fr', H', h', v, row, wt, g1, g2, g3, g4, g5, g6, g7⟩ := drwI_some hΘ hΓ hfn hrn a1 hps (show drwI d.i d.chk Γ rn ps fr H h (fun ps' fr' H' h' => drwK l Γ rn ps' fr' H' h' K) = some out from hk)
    rw [← a2] at g2 g4 g5 g6 g7
    obtain ⟨fA, hA, vA, rA, wA, HA, e1, e2, e3, e4, e5, e6, e7⟩ := drwK_some (l := l) (ss := ss) a4 g3 g1
    refine ⟨cns fr fA, cns h hA, cns v vA, cns row rA, cns wt wA, cns H HA, e1, rfl, rfl, fun k q hq => ?_, fun k q hq => ?_, fun k q t p hq hc hp hf => ?_, fun j k qj q hjk hqj hcj hw hq hc hf => ?_⟩
    · cases k with
      | zero =>
        simp at hq
        subst hq
        show Loc P CV σ fr (fA 0) h (hA 0) s.o s.d s.g s.cls H v row wt
        rw [e2, e3]; exact g2
      | succ k => exact e4 k q (by simpa using hq)
    · cases k with
      | zero => exact .inl ⟨rfl, fun j sj hj => by omega⟩
      | succ k =>
        rcases e5 k q (by simpa using hq) with ⟨h1, h2⟩ | ⟨m, h1, h2, h3, ⟨q0, h4, h5⟩, h6⟩
        · by_cases hc : s.cls = 3
          · refine .inr ⟨1, by omega, by omega, ?_, ⟨s, rfl, hc⟩, fun j sj hj1 hj2 hsj => ?_⟩
            · show HA k = hA 0
              rw [h1, (g5 hc).1, e3]
            · cases j with
              | zero => omega
              | succ j => exact h2 j sj (by omega) (by simpa using hsj)
          · refine .inl ⟨?_, fun j sj hj hsj => ?_⟩
            · show HA k = H
              rw [h1, g4 hc]
            · cases j with
              | zero => simp at hsj; subst hsj; exact hc
              | succ j => exact h2 j sj (by omega) (by simpa using hsj)
        · refine .inr ⟨m + 1, by omega, by omega, h3, ⟨q0, ?_, h5⟩, fun j sj hj1 hj2 hsj => ?_⟩
          · rw [show m + 1 - 1 = (m - 1) + 1 by omega]; simpa using h4
          · cases j with
            | zero => omega
            | succ j => exact h6 j sj (by omega) (by omega) (by simpa using hsj)
    · cases k with
      | zero =>
        simp at hq
        subst hq
        show Rck P Θ CV σ p (hA 0)
        rw [e3]
        refine (g5 hc).2 t p ?_ hp
        rw [← a3]
        simpa [nR] using hf
      | succ k =>
        show Rck P Θ CV σ p (hA (k + 1))
        by_cases h1 : s.cls = 1
        · obtain ⟨q0, h2, _⟩ := g7 h1
          refine e6 k q (t + 1) p (by simpa using hq) hc (by rw [h2]; simpa using hp) ?_
          have : nR (s :: ss) (k + 1) + t = nR ss k + (t + 1) := by simp only [nR, h1]; show 1 + nR ss k + t = _; omega
          rw [← this]; exact hf
        · refine e6 k q t p (by simpa using hq) hc (by rw [g6 h1]; exact hp) ?_
          have : nR (s :: ss) (k + 1) + t = nR ss k + t := by simp only [nR]; rw [Fw.beq_ne h1]; show 0 + nR ss k + t = _; omega
          rw [← this]; exact hf
    · cases k with
      | zero => omega
      | succ k =>
        cases j with
        | zero =>
          simp at hqj
          subst hqj
          obtain ⟨q0, h2, h3⟩ := g7 hcj
          obtain ⟨p, h4, h5, h6, h7, h8⟩ := h3 hw
          have := e6 k q 0 p (by simpa using hq) hc (by rw [h2, h4]; rfl) (by simpa using hf)
          have h9 := this.1 s.o h5
          rw [h6, h7] at h9
          refine ⟨h9, ?_⟩
          have h10 := this.2
          rw [h7, h8] at h10
          exact h10
        | succ j =>
          refine e7 j k qj q (by omega) (by simpa using hqj) hcj hw (by simpa using hq) hc ?_
          have : k + 1 - (j + 1) - 1 = k - j - 1 := by omega
          rw [this] at hf
          simpa using hf
end
end
end Go.Ev

