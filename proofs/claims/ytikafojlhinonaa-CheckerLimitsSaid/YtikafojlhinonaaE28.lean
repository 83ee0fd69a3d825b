/- The evaluator: runs that are cut into parts; between two parts a state that says less. -/
import Derived.Test.YtikafojlhinonaaE27
set_option linter.unusedVariables false
namespace Go.Ev
open Go.RowKit Go.Fw
noncomputable section
def navR : List Nat → RC → RC
  | [], c => c
  | 0 :: l, .seq a _ => navR l a
  | _ :: l, .seq _ b => navR l b
  | 0 :: l, .cond _ a _ => navR l a
  | _ :: l, .cond _ _ b => navR l b
  | _ :: l, .blk _ c => navR l c
  | _ :: l, .loop c => navR l c
  | _ :: l, c => navR l c
/-- one trie says no more than another -/
def leT {α : Type} (le : α → α → Bool) : T α → T α → Bool
  | .e, _ => true
  | .n _ _ _, .e => false
  | .n l v r, .n l' v' r' => and (le v v') (and (leT le l l') (leT le r r'))
def leA (a a' : A) : Bool := A.rec (motive := fun _ => Bool) (fun _ _ => eqbA a a') (fun _ => eqbA a a') (eqbA a a') (fun _ _ _ => eqbA a a') (eqbA a a') (fun _ _ => eqbA a a') (eqbA a a') (fun _ => eqbA a a') (eqbA a a') (fun _ _ => eqbA a a') (fun _ => eqbA a a') (fun _ => eqbA a a') (eqbA a a') (fun _ _ _ => eqbA a a') true (fun _ _ => false) (fun _ _ => false) a
/-- tries that are the same -/
def eqbVx (v v' : V) : Bool := V.rec (motive := fun _ => Bool) (fun _ => eqbV v v') (fun _ => eqbV v v') (fun _ => eqbV v v') (V.rec (motive := fun _ => Bool) (fun _ => false) (fun _ => false) (fun _ => false) true v') v
def eqTr {α : Type} (le : α → α → Bool) : T α → T α → Bool
  | .e, .e => true
  | .n l v r, .n l' v' r' => and (le v v') (and (eqTr le l l') (eqTr le r r'))
  | _, _ => false
def leR : Row → Row → Bool
  | .d, _ => true
  | .c ty n t, .c ty' n' t' => and (and (Nat.beq ty ty') (Nat.beq n n')) (leT leA t t')
  | _, _ => false
def eqbE : E → E → Bool
  | .nrm, .nrm => true
  | .ex i, .ex j => Nat.beq i j
  | .rt, .rt => true
  | _, _ => false
/-- a run that ends in a state that says at least so much -/
def fitK (e0 : E) (fr0 : T V) (h0 : AH) (e : E) (fr : T V) (h : AH) : R :=
  bif and (eqbE e0 e) (and (eqTr eqbVx fr0 fr) (and (h0.nx.eqb h.nx) (leT leR h0.rows h.rows))) then some (.st e0 fr0 h0) else none
theorem leT_get {α : Type} {le : α → α → Bool} {d : α} (hd : ∀ a, le d a = true) : ∀ {t t' : T α}, leT le t t' = true → ∀ p : Pp, le (t.get d p) (t'.get d p) = true
  | .e, t', _, p => by rw [T.get_e]; exact hd _
  | .n _ _ _, .e, h, p => by cases h
  | .n l v r, .n l' v' r', h, p => by
    obtain ⟨h1, h2⟩ := and_t (show and (le v v') (and (leT le l l') (leT le r r')) = true from h)
    obtain ⟨h2, h3⟩ := and_t h2
    cases p with
    | h => exact h1
    | l p => exact leT_get hd h2 p
    | r p => exact leT_get hd h3 p
theorem eqbVx_ok {v v' : V} (h : eqbVx v v' = true) : v = v' := by
  cases v with
  | x => cases v' <;> first | rfl | cases h
  | a x => exact eqbV_eq (show eqbV (.a x) v' = true from h)
  | g x => exact eqbV_eq (show eqbV (.g x) v' = true from h)
  | t x => exact eqbV_eq (show eqbV (.t x) v' = true from h)
theorem eqTr_ok : ∀ {t t' : T V}, eqTr eqbVx t t' = true → t = t'
  | .e, .e, _ => rfl
  | .e, .n _ _ _, h => by cases h
  | .n _ _ _, .e, h => by cases h
  | .n l v r, .n l' v' r', h => by
    obtain ⟨h1, h2⟩ := and_t (show and (eqbVx v v') (and (eqTr eqbVx l l') (eqTr eqbVx r r')) = true from h)
    obtain ⟨h2, h3⟩ := and_t h2
    rw [eqbVx_ok h1, eqTr_ok h2, eqTr_ok h3]
theorem leA_ok {a a' : A} (h : leA a a' = true) : a = .u ∨ a = a' := by
  cases a <;> first | exact .inl rfl | exact .inr (eqbA_eq h) | cases h
theorem eqbE_ok {e e' : E} (h : eqbE e e' = true) : e = e' ∧ ∀ a, e ≠ .pn a := by
  cases e <;> cases e' <;> first | exact ⟨rfl, fun a h => by cases h⟩ | cases h | (exact ⟨by rw [Nat.eq_of_beq_eq_true (show Nat.beq _ _ = true from h)], fun a h => by cases h⟩)
section
variable {P : Program} {Θ : T (Option TyI)} {CV : T (Option Site)} {σ : Sg}
theorem leR_live {r r' : Row} (h : leR r r' = true) (hl : r ≠ .d) : r' ≠ .d := by
  cases r <;> cases r' <;> first | exact absurd rfl hl | cases h | (exact fun e => Row.noConfusion e)
theorem RowR.weak {η : Eta} {c : Nat} {o : Option Obj} {r r' : Row} (hl : leR r r' = true) (h : RowR P CV σ η c o r') : RowR P CV σ η c o r := by
  cases r with
  | d => trivial
  | c ty n t =>
    cases r' with
    | c ty' n' t' =>
      obtain ⟨h1, h2⟩ := and_t (show and (and (Nat.beq ty ty') (Nat.beq n n')) (leT leA t t') = true from hl)
      obtain ⟨h3, h4⟩ := and_t h1
      have h3 := Nat.eq_of_beq_eq_true h3
      have h4 := Nat.eq_of_beq_eq_true h4
      subst h3; subst h4
      obtain ⟨cs, i, q1, q2, q3, q4, q5, q6⟩ := h
      refine ⟨cs, i, q1, q2, q3, q4, q5, fun p hp => ?_⟩
      rcases leA_ok (leT_get (d := A.u) (fun a => rfl) h2 p) with e | e
      · exact absurd e hp
      · rw [e] at hp ⊢; exact q6 p hp
    | _ => cases hl
  | _ => cases r' <;> cases hl
theorem HRel.weak {η : Eta} {h0 h : AH} {w : World} (hn : h0.nx.eqb h.nx = true) (hl : leT leR h0.rows h.rows = true) (hh : HRel P CV σ η h w) : HRel P CV σ η h0 w := by
  have hr : ∀ r, leR (h0.row r) (h.row r) = true := leT_get (d := Row.d) (fun a => rfl) hl
  have hn := ppEqb hn
  refine ⟨fun r r' b c c' l1 l2 => hh.inj r r' b c c' (leR_live (hr r) l1) (leR_live (hr r') l2), fun r b c he => (hh.rows r b c he).weak (hr r), fun r hx => hh.dom r (by rw [← hn]; exact hx), hh.bnd, fun r hx => ?_⟩
  have h1 := hh.nix r (by rw [← hn]; exact hx)
  have h2 := hr r
  rw [h1] at h2
  cases h3 : h0.row r with
  | d => rfl
  | _ => rw [h3] at h2; cases h2
theorem Stp.weak {η η' : Eta} {h h0 h' : AH} {w w' : World} (hn : h0.nx.eqb h'.nx = true) (hl : leT leR h0.rows h'.rows = true) (s : Stp η h w η' h' w') : Stp η h w η' h0 w' := by
  have hr : ∀ r, leR (h0.row r) (h'.row r) = true := leT_get (d := Row.d) (fun a => rfl) hl
  have hn := ppEqb hn
  obtain ⟨s1, s2, s3, s4, s5, s6, s7, s8, s9, s10⟩ := s
  refine ⟨s1, by rw [hn]; exact s2, fun r hx hd => ?_, s4, s5, s6, s7, s8, s9, s10⟩
  have h1 := s3 r hx hd
  have h2 := hr r
  rw [h1] at h2
  cases h3 : h0.row r with
  | d => rfl
  | _ => rw [h3] at h2; cases h2
/-- a part of a run -/
theorem seg {Γ : Env} (hm : P.follows .mixedOrders = true) (hΘ : Θ.All (TyQ P)) (hΓ : Γ.Ok σ) (hfn : Γ.fns.All (FnQ P Θ (CVr Θ CV))) (hcv : Γ.sites = CV) (hsi : CV.All (SiteQ (CVr Θ CV))) (hpc : Γ.pc.All (KnQ P CV σ))
    {n : Nat} {rc : RC} {fr : T V} {h : AH} {e0 : E} {fr0 : T V} {h0 : AH} (hk : run Γ n rc fr h (fitK e0 fr0 h0) = some (.st e0 fr0 h0)) {N : Nat} {c : Code} (hc : CVr Θ CV N c rc) : CodeDoes P CV σ N c fr h e0 fr0 h0 := by
  obtain ⟨e, fr', h', g1, g2, _⟩ := good_run hm hΘ hΓ hfn hcv hsi hpc n _ _ _ _ _ hk N c hc
  have g1 : (bif and (eqbE e0 e) (and (eqTr eqbVx fr0 fr') (and (h0.nx.eqb h'.nx) (leT leR h0.rows h'.rows))) then some (Out.st e0 fr0 h0) else none) = some (.st e0 fr0 h0) := g1
  cases hb : and (eqbE e0 e) (and (eqTr eqbVx fr0 fr') (and (h0.nx.eqb h'.nx) (leT leR h0.rows h'.rows))) with
  | false => rw [hb] at g1; cases g1
  | true =>
    obtain ⟨b1, b2⟩ := and_t hb
    obtain ⟨b2, b3⟩ := and_t b2
    obtain ⟨b3, b4⟩ := and_t b3
    obtain ⟨rfl, hnp⟩ := eqbE_ok b1
    intro η a w F base hF hh hfr hN hdf hb' hnf
    refine wpIn_mono (g2 η a w F base hF hh hfr hN hdf hb' hnf) fun x a' w' q => ?_
    obtain ⟨η', q1, q2, q3, q4, q5, q6⟩ := q
    exact ⟨η', q1, q2.weak b3 b4, by rw [eqTr_ok b2]; exact q3, q4, q5, q6.weak b3 b4⟩
theorem CodeDoes.seq {N : Nat} {x y : Code} {fr f1 f2 : T V} {h h1 h2 : AH} {e : E} (g2 : CodeDoes P CV σ N x fr h .nrm f1 h1) (g5 : CodeDoes P CV σ N y f1 h1 e f2 h2) : CodeDoes P CV σ N (.seq x y) fr h e f2 h2 := by
  intro η ac w F base hF hh hfr hN hdf hb hnf
  have hnf2 : base.nm = true → norf x = true ∧ norf y = true := fun e => by simpa [norf] using hnf e
  refine wpIn_seq (wpIn_mono (g2 η ac w F base hF hh hfr hN hdf hb (fun e => (hnf2 e).1)) (then_of (fun _ a' w' q => ?_) (fun e => absurd rfl e)))
  obtain ⟨η1, _, r1, r2, r3, r4, r5⟩ := q
  exact wpIn_mono (g5 η1 a' w' F base (hF.step r5) r1 r2 r3 r4 (by have := r5.size; omega) (fun e => (hnf2 e).2)) fun x a'' w'' q' => q'.trans hh r5
theorem CodeDoes.seqX {N : Nat} {x y : Code} {fr f1 : T V} {h h1 : AH} {e : E} (hne : e ≠ .nrm) (g2 : CodeDoes P CV σ N x fr h e f1 h1) : CodeDoes P CV σ N (.seq x y) fr h e f1 h1 := fun η ac w F base hF hh hfr hN hdf hb hnf =>
  wpIn_seq (wpIn_mono (g2 η ac w F base hF hh hfr hN hdf hb (fun e => by have := hnf e; simp [norf] at this; exact this.1)) (then_of (fun e => absurd e hne) (fun _ x a' w' q => q)))
/-- out of a block by its own exit -/
theorem CodeDoes.blk {N i : Nat} {y : Code} {fr f1 : T V} {h h1 : AH} (g2 : CodeDoes P CV σ N y fr h (.ex i) f1 h1) : CodeDoes P CV σ N (.block i y) fr h .nrm f1 h1 := fun η ac w F base hF hh hfr hN hdf hb hnf =>
  wpIn_block (wpIn_mono (g2 η ac w F base hF hh hfr hN hdf hb hnf) (fun x a' w' q => by
    obtain ⟨η', hx, q⟩ := q
    have hx : x = .exit i := hx
    subst hx
    show Exit.inBlock i _ (.exit i) a' w'
    simp only [Exit.inBlock, if_true]
    exact ⟨η', rfl, q⟩))
theorem RoundsDoes.one {N : Nat} {cb : Code} {fr f1 : T V} {h h1 : AH} {e : E} (hne : e ≠ .nrm) (g2 : CodeDoes P CV σ N cb fr h e f1 h1) : RoundsDoes P CV σ N cb 1 fr h e f1 h1 := fun η0 η h0 w0 ac w F base hh0 hs0 hF hh hfr hN hdf hb hnf => by
  rw [roundsIn_succ]
  exact wpIn_mono (g2 η ac w F base hF hh hfr hN hdf hb hnf) (then_of (fun e => absurd e hne) (fun _ x a' w' q => q.trans hh0 hs0))
theorem RoundsDoes.more {N m : Nat} {cb : Code} {fr f1 f2 : T V} {h h1 h2 : AH} {e : E} (g2 : CodeDoes P CV σ N cb fr h .nrm f1 h1) (g8 : RoundsDoes P CV σ N cb m f1 h1 e f2 h2) : RoundsDoes P CV σ N cb (m + 1) fr h e f2 h2 := fun η0 η h0 w0 ac w F base hh0 hs0 hF hh hfr hN hdf hb hnf => by
  rw [roundsIn_succ]
  refine wpIn_mono (g2 η ac w F base hF hh hfr hN hdf hb hnf) (then_of (fun _ a' w' q => ?_) (fun e => absurd rfl e))
  obtain ⟨η1, _, r1, r2, r3, r4, r5⟩ := q
  exact g8 η0 η1 h0 w0 a' w' F base hh0 (Stp.trans hh0.dom hs0 r5) (hF.step r5) r1 r2 r3 r4 (by have := r5.size; omega) hnf
theorem RoundsDoes.loop {N m : Nat} {cb : Code} {fr f1 : T V} {h h1 : AH} {e : E} (g : RoundsDoes P CV σ N cb m fr h e f1 h1) : CodeDoes P CV σ N (.loop cb) fr h e f1 h1 := fun η ac w F base hF hh hfr hN hdf hb hnf =>
  wpIn_loop_rounds m (g η η h w ac w F base hh (Stp.refl η h w) hF hh hfr hN hdf hb hnf)
open Classical in
/-- a runner that knows one run alone -/
def rn1 (c0 : RC) (fr0 : T V) (h0 : AH) (e : E) (fr1 : T V) (h1 : AH) : Rn := fun c fr h k => if c = c0 ∧ fr = fr0 ∧ h = h0 then k e fr1 h1 else none
/-- a call of a function of which the body's run is known -/
theorem call_code {Γ : Env} (hΘ : Θ.All (TyQ P)) (hΓ : Γ.Ok σ) (hfn : Γ.fns.All (FnQ P Θ (CVr Θ CV))) (hcv : Γ.sites = CV) (hsi : CV.All (SiteQ (CVr Θ CV))) (hpc : Γ.pc.All (KnQ P CV σ))
    {fp : Pp} {vs : List V} {args : List Value} {rf : RF} {fr0 fr1 : T V} {h1 : AH} {e : E} (hd : DVL σ (fun _ => none) vs args) (hget : Γ.fns.get none fp = some rf) (hdf : rf.df = false) (hpm : Γ.pc.get none fp = none) (harg : ∀ k, argsB rf.ps vs .e k = k fr0)
    (hbody : ∀ N c, CVr Θ CV N c rf.body → CodeDoes P CV σ N c fr0 ⟨.h, .e⟩ e fr1 h1)
    (hend : endK rf.res e fr1 h1 (fun v _ => v.aK fun a => a.bK fun t => some (.val (.a (.b t)) ⟨.h, .e⟩)) (fun _ _ => none) = some (.val (.a (.b true)) ⟨.h, .e⟩)) (w : World) :
    Calls P fp.toNat args.toArray w (Ret fun v w' => v = .bool true ∧ Below w.heap.size w w') := by
  have hrn : RnOk P Θ CV (CVr Θ CV) σ Γ (rn1 rf.body fr0 ⟨.h, .e⟩ e fr1 h1) := by
    refine ⟨hcv, hsi, hpc, fun c fr h k out hk N c' hc => ?_, fun N c' a b hc => hc.seqI, fun N c' l x b hc => hc.dfI, fun N c' d m hc => hc.rvI⟩
    unfold rn1 at hk
    split at hk
    · rename_i hq
      obtain ⟨rfl, rfl, rfl⟩ := hq
      exact ⟨e, fr1, h1, hk, hbody N c' hc⟩
    · cases hk
  have hk : callK Γ (rn1 rf.body fr0 ⟨.h, .e⟩ e fr1 h1) fp vs ⟨.h, .e⟩ (fun v _ => v.aK fun a => a.bK fun t => some (.val (.a (.b t)) ⟨.h, .e⟩)) (fun _ _ => none) = some (.val (.a (.b true)) ⟨.h, .e⟩) := by
    unfold callK
    rw [hpm]
    unfold callB
    rw [hget]
    show argsB rf.ps vs .e _ = _
    rw [harg, hdf]
    show rn1 rf.body fr0 ⟨.h, .e⟩ e fr1 h1 rf.body fr0 ⟨.h, .e⟩ _ = _
    unfold rn1
    rw [if_pos ⟨rfl, rfl, rfl⟩]
    exact hend
  obtain ⟨res, h', g1, g2, _⟩ := callK_some (P := P) (CV := CV) hΘ hfn hΓ hrn hk
  rcases res with v | _
  case inr => cases g1
  obtain ⟨a, rfl, g3⟩ := aK_some g1
  obtain ⟨t, rfl, g4⟩ := bK_some g3
  cases g4
  have hh : HRel P CV σ (fun _ => none) ⟨.h, .e⟩ w := ⟨fun r r' b c c' _ _ h => (by cases h), fun r b c h => (by cases h), fun _ _ => rfl, fun r b c h => (by cases h), fun r _ => T.get_e Row.d r⟩
  refine callsIn_wide.1 (((g2 (fun _ => none) args w hd hh).mono REnd.ret).mono fun e w' he => ?_)
  obtain ⟨v', rfl, η', d1, _, s⟩ := he
  exact ⟨v', rfl, d1, ⟨s.os, s.tape, s.output, s.size, fun k hk => s.keep k hk (fun r c _ h => by cases h)⟩⟩
end
end
end Go.Ev
