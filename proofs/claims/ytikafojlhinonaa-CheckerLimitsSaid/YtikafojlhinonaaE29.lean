/- The evaluator: calls whose answer holds one new row. -/
import Derived.Test.YtikafojlhinonaaE28
set_option linter.unusedVariables false
namespace Go.Ev
open Go.RowKit Go.Fw
noncomputable section
/-- a trie without addresses -/
def belT : T A → Bool
  | .e => true
  | .n l v r => and (or (belA 0 v) (eqbU' v)) (and (belT l) (belT r))
where eqbU' (v : A) : Bool := A.rec (motive := fun _ => Bool) (fun _ _ => false) (fun _ => false) false (fun _ _ _ => false) false (fun _ _ => false) false (fun _ => false) false (fun _ _ => false) (fun _ => false) (fun _ => false) false (fun _ _ _ => false) true (fun _ _ => false) (fun _ _ => false) v
theorem belT_get : ∀ {t : T A}, belT t = true → ∀ p : Pp, t.get .u p ≠ .u → belA 0 (t.get .u p) = true
  | .e, _, p, h => absurd (T.get_e A.u p) h
  | .n l v r, hb, p, h => by
    obtain ⟨h1, h2⟩ := and_t (show and (or (belA 0 v) (belT.eqbU' v)) (and (belT l) (belT r)) = true from hb)
    obtain ⟨h2, h3⟩ := and_t h2
    cases p with
    | h =>
      have h : v ≠ .u := h
      show belA 0 v = true
      cases hv : belA 0 v with
      | true => rfl
      | false =>
        rw [hv] at h1
        have h1 : belT.eqbU' v = true := h1
        cases v <;> first | exact absurd rfl h | cases h1
    | l p => exact belT_get h2 p h
    | r p => exact belT_get h3 p h
/-- what such a call answers -/
def acF (as_ : List V) (ty n m : Nat) (t : T A) (rest : List U) : KF := fun vs h kH kM => Bool.rec (motive := fun _ => R) kM (h.newK (.c ty m t) (fun r h' => kH (.t (.a (.s r (nat_lit 0) n) :: rest)) h')) (eqbVL as_ vs)
def nilU (l : List U) (k : R) : R := List.rec (motive := fun _ => R) k (fun _ _ _ => none) l
def acK (ty n m : Nat) (t : T A) (rest : List U) (v : V) (h : AH) : R :=
  v.tK (fun l => List.rec (motive := fun _ => R) none (fun u us _ => U.rec (motive := fun _ => R) (fun a => a.sK none (fun r o n' => bif and (and (Nat.beq o 0) (Nat.beq n n')) (and (eqbUL rest us) (leR (.c ty m t) (h.row r))) then some (.val (.a (.b true)) ⟨.h, .e⟩) else none)) (fun _ => none) u) l)
def AcSays (Γ : Env) (k : Nat) (fp : Pp) (as_ : List V) (ty n m : Nat) (t : T A) (rest : List U) : Prop := call Γ k fp as_ ⟨.h, .e⟩ (acK ty n m t rest) = some (.val (.a (.b true)) ⟨.h, .e⟩)
section
variable {P : Program} {Θ : T (Option TyI)} {CV : T (Option Site)} {σ : Sg}
theorem belA_any {a : A} {v : Value} {η η' : Eta} (hb : belA 0 a = true) (h : Da σ η a v) : Da σ η' a v := by
  have h1 := belA_cut (n := .h) hb h
  refine h1.mono fun r p hr => ?_
  rw [cut_ge (Nat.zero_le _)] at hr; cases hr
theorem belUL_any {l : List U} {vs : List Value} {η η' : Eta} (hb : belUL 0 l = true) (h : DUL σ η l vs) : DUL σ η' l vs := by
  have h1 := belUL_cut (n := .h) hb h
  refine h1.mono fun r p hr => ?_
  rw [cut_ge (Nat.zero_le _)] at hr; cases hr
theorem acall_mk {Γ : Env} (hm : P.follows .mixedOrders = true) (hΘ : Θ.All (TyQ P)) (hΓ : Γ.Ok σ) (hfn : Γ.fns.All (FnQ P Θ (CVr Θ CV))) (hcv : Γ.sites = CV) (hsi : CV.All (SiteQ (CVr Θ CV))) (hpc : Γ.pc.All (KnQ P CV σ))
    {k : Nat} {fp : Pp} {as_ : List V} {ty n m : Nat} {t : T A} {rest : List U} (hb : belVL 0 as_ = true) (ht : belT t = true) (hr : belUL 0 rest = true) (hn : n ≠ 0) (hk : AcSays Γ k fp as_ ty n m t rest) : KnQ P CV σ fp.toNat (some (acF as_ ty n m t rest)) := by
  obtain ⟨res, h', g1, g2, g3⟩ := callK_some (P := P) (CV := CV) hΘ hfn hΓ (Good.toRn hcv hsi hpc (good_run hm hΘ hΓ hfn hcv hsi hpc k)) (show callK Γ (run Γ k) fp as_ _ _ _ = _ from hk)
  rcases res with u | _
  case inr => cases g1
  obtain ⟨l, rfl, g4⟩ := tK_some g1
  have hl : ∃ r us, l = .a (.s r 0 n) :: us ∧ us = rest ∧ leR (.c ty m t) (h'.row r) = true := by
    match l, g4 with
    | [], g4 => cases g4
    | .g _ :: _, g4 => cases g4
    | .a a :: us, g4 =>
      rcases sK_some (a := a) g4 with ⟨_, g5⟩ | ⟨r, o, n', rfl, g5⟩
      · cases g5
      · have g5 : (bif and (and (Nat.beq o 0) (Nat.beq n n')) (and (eqbUL rest us) (leR (.c ty m t) (h'.row r))) then some (Out.val (.a (.b true)) ⟨.h, .e⟩) else none) = some (.val (.a (.b true)) ⟨.h, .e⟩) := g5
        cases hq : and (and (Nat.beq o 0) (Nat.beq n n')) (and (eqbUL rest us) (leR (.c ty m t) (h'.row r))) with
        | false => rw [hq] at g5; cases g5
        | true =>
          obtain ⟨q1, q2⟩ := and_t hq
          obtain ⟨q3, q4⟩ := and_t q1
          obtain ⟨q5, q6⟩ := and_t q2
          have q3 := Nat.eq_of_beq_eq_true q3
          have q4 := Nat.eq_of_beq_eq_true q4
          subst q3; subst q4
          exact ⟨r, us, rfl, (eqbUL_eq q5).symm, q6⟩
  obtain ⟨r, us, rfl, rfl, hrow⟩ := hl
  refine ⟨g3, fun vs h kH kM out hF => ?_⟩
  have h0 : Bool.rec (motive := fun _ => R) kM (h.newK (.c ty m t) (fun r h' => kH (.t (.a (.s r 0 n) :: us)) h')) (eqbVL as_ vs) = some out := hF
  cases hv : eqbVL as_ vs with
  | false => rw [hv] at h0; exact .inl h0
  | true =>
    rw [hv] at h0
    have hv := eqbVL_eq hv
    subst hv
    rw [newK_eq] at h0
    refine .inr ⟨_, _, h0, fun η args w hd hh => ?_⟩
    have hh0 : HRel P CV σ (fun _ => none) ⟨.h, .e⟩ w := ⟨fun r r' b c c' _ _ h => (by cases h), fun r b c h => (by cases h), fun _ _ => rfl, fun r b c h => (by cases h), fun r _ => T.get_e Row.d r⟩
    refine ((g2 (fun _ => none) args w (belVL_any hb hd) hh0).mono REnd.ret).mono fun e w' he => ?_
    obtain ⟨v', rfl, η', d1, q, s⟩ := he
    obtain ⟨vs, ⟨v1, vs1, rfl, dv, dvs⟩, rfl⟩ := d1
    obtain ⟨b, c, c', o', e1, rfl, e3, e4, e5⟩ := dv
    have ho : o' = 0 := by rcases e5 with e5 | ⟨e5, _⟩ <;> omega
    subst ho
    have hc' := e4 rfl
    subst hc'
    have keep : ∀ k, k < w.heap.size → w'.heap[k]? = w.heap[k]? := fun k hk => s.keep k hk (fun r c _ h => by cases h)
    have hb1 : w.heap.size ≤ b := by
      rcases (s.new r b _ rfl e1).2 with h1 | ⟨r0, c0, _, h2⟩
      · exact h1
      · cases h2
    have hb2 : b < w'.heap.size := q.bnd r b _ e1
    have hR := (q.rows r b _ e1).weak hrow
    have hdom : η h.nx = none := hh.dom _ (Nat.le_refl _)
    have hle : η.le (η.add h.nx (b, c')) := Eta.le_add hdom
    have hRow : RowR P CV σ (η.add h.nx (b, c')) c' w'.heap[b]? (.c ty m t) := by
      obtain ⟨cs, i, r1, r2, r3, r4, r5, r6⟩ := hR
      exact ⟨cs, i, r1, r2, r3, r4, r5, fun p hp => let ⟨a1, v, a2, a3⟩ := r6 p hp; ⟨a1, v, a2, belA_any (belT_get ht p hp) a3⟩⟩
    refine ⟨η.add h.nx (b, c'), ⟨_, rfl, ?_⟩, ⟨?_, ?_, ?_, ?_, ?_⟩, ⟨hle, ?_, ?_, s.size, fun k hk _ => keep k hk, ?_, s.os, s.tape, s.output, fun k L hL => ⟨L, by rw [keep k (Array.getElem?_eq_some_iff.1 hL).1]; exact hL⟩⟩⟩
    · refine ⟨_, ⟨_, _, rfl, ⟨b, c', c', 0, by unfold Eta.add; rw [if_pos rfl], rfl, e3, fun _ => rfl, .inl rfl⟩, ?_⟩, rfl⟩
      exact belUL_any hr dvs
    · intro r1 r2 b1 c1 c2 l1 l2 k1 k2
      rw [AH.row_set] at l1 l2
      unfold Eta.add at k1 k2
      by_cases x1 : r1 = h.nx <;> by_cases x2 : r2 = h.nx
      · rw [x1, x2]
      · rw [if_pos x1] at k1
        rw [if_neg x2] at k2
        have := hh.bnd _ _ _ k2
        injection k1 with k1; injection k1 with k1
        omega
      · rw [if_neg x1] at k1
        rw [if_pos x2] at k2
        have := hh.bnd _ _ _ k1
        injection k2 with k2; injection k2 with k2
        omega
      · rw [if_neg x1] at l1 k1
        rw [if_neg x2] at l2 k2
        exact hh.inj r1 r2 b1 c1 c2 l1 l2 k1 k2
    · intro r1 b1 c1 k1
      rw [AH.row_set]
      unfold Eta.add at k1
      by_cases x1 : r1 = h.nx
      · rw [if_pos x1] at k1 ⊢
        injection k1 with k1; injection k1 with k1 k2
        subst k1; subst k2
        exact hRow
      · rw [if_neg x1] at k1 ⊢
        rw [keep b1 (hh.bnd _ _ _ k1)]
        exact (hh.rows r1 b1 c1 k1).mono hle
    · intro r1 hge
      simp only [Pp.toNat_succ] at hge
      unfold Eta.add
      rw [if_neg (fun e => by rw [e] at hge; omega)]
      exact hh.dom r1 (by omega)
    · intro r1 b1 c1 k1
      unfold Eta.add at k1
      by_cases x1 : r1 = h.nx
      · rw [if_pos x1] at k1; injection k1 with k1; injection k1 with k1 k2; omega
      · rw [if_neg x1] at k1; have := hh.bnd _ _ _ k1; have := s.size; omega
    · intro r1 hge
      simp only [Pp.toNat_succ] at hge
      rw [AH.row_set, if_neg (fun e => by rw [e] at hge; omega)]
      exact hh.nix r1 (by omega)
    · simp only [Pp.toNat_succ]; omega
    · intro r1 hlt hd
      rw [AH.row_set, if_neg (fun e => by rw [e] at hlt; omega)]; exact hd
    · intro r1 b1 c1 k1 k2
      unfold Eta.add at k2
      by_cases x1 : r1 = h.nx
      · rw [if_pos x1] at k2
        injection k2 with k2; injection k2 with k2
        exact ⟨by rw [x1]; exact Nat.le_refl _, .inl (by omega)⟩
      · rw [if_neg x1, k1] at k2; cases k2
end
end
end Go.Ev
