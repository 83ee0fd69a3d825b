/- IrChecks: E22. -/
import Derived.Test.YtbpccmnalhdpmaaJ35
set_option linter.unusedVariables false
namespace Go.Ev
open Go.RowKit Go.Fw
noncomputable section
section
variable {P : Program} {Θ : T (Option TyI)} {CV : T (Option Site)} {σ : Nat → Int} {Γ : Env} (hΘ : Θ.All (TyQ P)) (hΓ : Γ.Ok σ) {CR : Nat → Code → RC → Prop} (hfn : Γ.fns.All (FnQ P Θ CR)) {rn : Rn} (hrn : RnOk P CV CR σ Γ rn)
theorem ppEqb : ∀ {p q : Pp}, p.eqb q = true → p = q
  | .h, .h, _ => rfl
  | .h, .l _, e => by cases e
  | .h, .r _, e => by cases e
  | .l _, .h, e => by cases e
  | .l p, .l q, e => congrArg _ (ppEqb (p := p) (q := q) e)
  | .l _, .r _, e => by cases e
  | .r _, .h, e => by cases e
  | .r _, .l _, e => by cases e
  | .r p, .r q, e => congrArg _ (ppEqb (p := p) (q := q) e)
theorem eqbC_eq : ∀ {a b : List (Pp × Nat)}, eqbC a b = true → a = b
  | [], [], _ => rfl
  | [], _ :: _, h => by cases h
  | _ :: _, [], h => by cases h
  | (x, i) :: a, (y, j) :: b, h => by
    obtain ⟨h1, h2⟩ := and_t (show and (and (x.eqb y) (Nat.beq i j)) (eqbC a b) = true from h)
    obtain ⟨h3, h4⟩ := and_t h1
    rw [ppEqb h3, Nat.eq_of_beq_eq_true h4, eqbC_eq h2]
theorem eqbA_eq {a b : A} (h : eqbA a b = true) : a = b := by
  cases a with
  | i k e =>
    cases b with
    | i k' e' =>
      obtain ⟨h1, h2⟩ := and_t (show and (Nat.beq (ikK k) (ikK k')) (e.eqb e') = true from h)
      rw [ikK_inj h1, SE.eqb_eq h2]
    | _ => cases h
  | b x =>
    cases b with
    | b y => cases x <;> cases y <;> first | rfl | cases h
    | _ => cases h
  | s0 =>
    cases b with
    | s0 => rfl
    | _ => cases h
  | s r o n =>
    cases b with
    | s r' o' n' =>
      obtain ⟨h1, h2⟩ := and_t (show and (r.eqb r') (and (Nat.beq o o') (Nat.beq n n')) = true from h)
      obtain ⟨h3, h4⟩ := and_t h2
      rw [ppEqb h1, Nat.eq_of_beq_eq_true h3, Nat.eq_of_beq_eq_true h4]
    | _ => cases h
  | p0 =>
    cases b with
    | p0 => rfl
    | _ => cases h
  | p r o =>
    cases b with
    | p r' o' =>
      obtain ⟨h1, h2⟩ := and_t (show and (r.eqb r') (Nat.beq o o') = true from h)
      rw [ppEqb h1, Nat.eq_of_beq_eq_true h2]
    | _ => cases h
  | m0 =>
    cases b with
    | m0 => rfl
    | _ => cases h
  | m r =>
    cases b with
    | m r' => rw [ppEqb (show r.eqb r' = true from h)]
    | _ => cases h
  | f k c =>
    cases b with
    | f k' c' =>
      obtain ⟨h1, h2⟩ := and_t (show and (Nat.beq k k') (eqbC c c') = true from h)
      rw [Nat.eq_of_beq_eq_true h1, eqbC_eq h2]
    | _ => cases h
  | t l =>
    cases b with
    | t l' => rw [eqbN_eq (show eqbN l l' = true from h)]
    | _ => cases h
  | q0 =>
    cases b with
    | q0 => rfl
    | _ => cases h
  | _ => cases b <;> cases h
theorem eqbL_eq : ∀ {a b : List A}, eqbL a b = true → a = b
  | [], [], _ => rfl
  | [], _ :: _, h => by cases h
  | _ :: _, [], h => by cases h
  | x :: a, y :: b, h => by
    obtain ⟨h1, h2⟩ := and_t (show and (eqbA x y) (eqbL a b) = true from h)
    rw [eqbA_eq h1, eqbL_eq h2]
theorem eqbU_eq {a b : U} (h : eqbU a b = true) : a = b := by
  cases a with
  | a x => cases b with | a y => rw [eqbA_eq (show eqbA x y = true from h)] | g _ => cases h
  | g x => cases b with | g y => rw [eqbL_eq (show eqbL x y = true from h)] | a _ => cases h
theorem eqbUL_eq : ∀ {a b : List U}, eqbUL a b = true → a = b
  | [], [], _ => rfl
  | [], _ :: _, h => by cases h
  | _ :: _, [], h => by cases h
  | x :: a, y :: b, h => by
    obtain ⟨h1, h2⟩ := and_t (show and (eqbU x y) (eqbUL a b) = true from h)
    rw [eqbU_eq h1, eqbUL_eq h2]
theorem eqbV_eq {a b : V} (h : eqbV a b = true) : a = b := by
  cases a with
  | a w => cases b with | a y => rw [eqbA_eq (show eqbA w y = true from h)] | _ => cases h
  | g w => cases b with | g y => rw [eqbL_eq (show eqbL w y = true from h)] | _ => cases h
  | t w => cases b with | t y => rw [eqbUL_eq (show eqbUL w y = true from h)] | _ => cases h
  | x => cases b <;> cases h
/-- a read, looked at again -/
def Rck (P : Program) (Θ : T (Option TyI)) (CV : T (Option Site)) (σ : Nat → Int) (p : Pe) (h : AH) : Prop := (∀ o : Oper, cvR Θ o.op = some p.o → RDoes P CV σ p.fr h o p.v) ∧ belV p.nx.nat p.v = true
/-- what is to be looked at again stands for operations -/
def PsOk (Θ : T (Option TyI)) (ps : List (Option Pe)) : Prop := ∀ p, some p ∈ ps → ∃ o : Oper, cvR Θ o.op = some p.o
include hΘ hΓ in
theorem chkK_some {h : AH} {k : R} {out : Out} : ∀ {cs : List Bool} {ps : List (Option Pe)}, PsOk Θ ps → chkK Γ h cs ps k = some out → k = some out ∧ ∀ (t : Nat) (p : Pe), cs[t]? = some true → ps[t]? = some (some p) → Rck P Θ CV σ p h
  | [], ps, _, hk => ⟨hk, fun t p h1 => by simp at h1⟩
  | c :: cs, [], _, hk => ⟨hk, fun t p _ h2 => by simp at h2⟩
  | c :: cs, q :: ps, hps, hk => by
    have hk0 : Bool.rec (motive := fun _ => R) (chkK Γ h cs ps k) (Option.rec (motive := fun _ => R) (chkK Γ h cs ps k) (fun p => exR p.o Γ p.fr h (fun v => Bool.rec (motive := fun _ => R) none (chkK Γ h cs ps k) (and (eqbV v p.v) (belV p.nx.nat p.v)))) q) c = some out := hk
    have tail : chkK Γ h cs ps k = some out → (∀ p, c = true → q = some p → Rck P Θ CV σ p h) → k = some out ∧ ∀ (t : Nat) (p : Pe), (c :: cs)[t]? = some true → (q :: ps)[t]? = some (some p) → Rck P Θ CV σ p h := by
      intro h1 h2
      obtain ⟨h3, h4⟩ := chkK_some (cs := cs) (ps := ps) (fun p hp => hps p (by simp [hp])) h1
      refine ⟨h3, fun t p g1 g2 => ?_⟩
      cases t with
      | zero => simp at g1 g2; exact h2 p g1 g2
      | succ t => exact h4 t p (by simpa using g1) (by simpa using g2)
    cases c with
    | false => exact tail hk0 (fun p e => by cases e)
    | true =>
      cases q with
      | none => exact tail hk0 (fun p _ e => by cases e)
      | some p =>
        have key : ∀ o : Oper, cvR Θ o.op = some p.o → chkK Γ h cs ps k = some out ∧ RDoes P CV σ p.fr h o p.v ∧ belV p.nx.nat p.v = true := by
          intro o ho
          obtain ⟨v, g1, g2⟩ := sR (P := P) (CV := CV) hΘ hΓ o p.o h _ ho hk0
          obtain ⟨g3, g4⟩ := bif_some g1
          obtain ⟨g5, g6⟩ := and_t g3
          rw [eqbV_eq g5] at g2
          exact ⟨g4, g2, g6⟩
        obtain ⟨o, ho⟩ := hps p (by simp)
        refine tail (key o ho).1 (fun p' _ e => ?_)
        injection e with e
        subst e
        exact ⟨fun o' ho' => (key o' ho').2.1, (key o ho).2.2⟩
/-- the class of an item -/
def clsI : I → Nat
  | .p .. => 0
  | .r .. => 1
  | .a .. => 2
  | _ => 3
/-- what the evaluator has shown of one operation of a region that draws -/
structure Loc (P : Program) (CV : T (Option Site)) (σ : Nat → Int) (fr fr' : T V) (h h' : AH) (o : Oper) (d : Option Pp) (g : Option (Pp × Bool)) (cls : Nat) (H : AH) (v : V) (row : Row) (wt : Bool) : Prop where
  fe : fr' = setO fr d v
  nx : h.nx.toNat ≤ h'.nx.toNat
  no : wt = false → gOk fr g = some false ∧ v = .x ∧ h' = h
  yes : wt = true → gOk fr g = some true
  p : wt = true → cls = 0 → PDoes P σ fr o v ∧ h' = h
  r : wt = true → cls = 1 → RDoes P CV σ fr H o v ∧ h' = h
  a : wt = true → cls = 2 → ∃ mk, ADoes P CV σ fr o row mk ∧ v = .a (mk h.nx) ∧ h' = ⟨h.nx.succ, T.set .d row h.nx h.rows⟩
  c : wt = true → cls = 3 → ODoes P CV σ fr h o v h'
theorem cnK_some {cs : List Bool} {ps : List (Option Pe)} {h h' : AH} {k : R} {out : Out} (hk : cnK Γ cs ps h h' k = some out) : h.nx.toNat ≤ h'.nx.toNat ∧ chkK Γ h' cs ps k = some out := by
  obtain ⟨h1, h2⟩ := bif_some hk
  have := Nat.le_of_ble_eq_true h1
  rw [Pp.nat_eq, Pp.nat_eq] at this
  exact ⟨this, h2⟩
include hΘ hΓ hfn hrn in
theorem drwI_some {i : I} {cs : List Bool} {ps : List (Option Pe)} {fr : T V} {H h : AH} {K : List (Option Pe) → T V → AH → AH → R} {out : Out} {o : Oper} {d : Option Pp} {g : Option (Pp × Bool)} (hi : IsI Θ o d g i) (hps : PsOk Θ ps) (hk : drwI i cs Γ rn ps fr H h K = some out) :
    ∃ ps' fr' H' h' v row wt, K ps' fr' H' h' = some out ∧ Loc P CV σ fr fr' h h' o d g (clsI i) H v row wt ∧ PsOk Θ ps' ∧
      (clsI i ≠ 3 → H' = H) ∧ (clsI i = 3 → H' = h' ∧ ∀ (t : Nat) (p : Pe), cs[t]? = some true → ps[t]? = some (some p) → Rck P Θ CV σ p h') ∧
      (clsI i ≠ 1 → ps' = ps) ∧ (clsI i = 1 → ∃ q, ps' = q :: ps ∧ (wt = true → ∃ p : Pe, q = some p ∧ cvR Θ o.op = some p.o ∧ p.fr = fr ∧ p.v = v ∧ p.nx = h.nx)) := by
  have chain : clsI i = 3 → exI i Γ rn fr h (fun fr' h' => cnK Γ cs ps h h' (K ps fr' h' h')) = some out → ∃ ps' fr' H' h' v row wt, K ps' fr' H' h' = some out ∧ Loc P CV σ fr fr' h h' o d g (clsI i) H v row wt ∧ PsOk Θ ps' ∧
      (clsI i ≠ 3 → H' = H) ∧ (clsI i = 3 → H' = h' ∧ ∀ (t : Nat) (p : Pe), cs[t]? = some true → ps[t]? = some (some p) → Rck P Θ CV σ p h') ∧
      (clsI i ≠ 1 → ps' = ps) ∧ (clsI i = 1 → ∃ q, ps' = q :: ps ∧ (wt = true → ∃ p : Pe, q = some p ∧ cvR Θ o.op = some p.o ∧ p.fr = fr ∧ p.v = v ∧ p.nx = h.nx)) := by
    intro hc he
    obtain ⟨v, h', g1, g2⟩ := exI_some hΘ hΓ hfn hrn hi he
    obtain ⟨g3, g4⟩ := cnK_some g1
    obtain ⟨g5, g6⟩ := chkK_some (P := P) (CV := CV) hΘ hΓ hps g4
    rcases g2 with ⟨q1, q2⟩ | ⟨q1, rfl, rfl⟩
    · exact ⟨ps, _, h', h', v, .d, true, g5, ⟨rfl, g3, fun e => (by cases e), fun _ => q1, fun _ e => (by omega), fun _ e => (by omega), fun _ e => (by omega), fun _ _ => q2⟩, hps, fun e => absurd hc e, fun _ => ⟨rfl, g6⟩, fun _ => rfl, fun e => (by omega)⟩
    · exact ⟨ps, _, h', h', .x, .d, false, g5, ⟨rfl, g3, fun _ => ⟨q1, rfl, rfl⟩, fun e => (by cases e), fun e => (by cases e), fun e => (by cases e), fun e => (by cases e), fun e => (by cases e)⟩, hps, fun e => absurd hc e, fun _ => ⟨rfl, g6⟩, fun _ => rfl, fun e => (by omega)⟩
  cases hi with
  | @p q op hd hc =>
    subst hd
    rcases gd_some (show gd fr g (exP op Γ fr (fun v => fr.setK .x v q (fun f => K ps f H h))) (fr.setK .x .x q (fun f => K ps f H h)) = some out from hk) with ⟨h1, h2⟩ | ⟨h1, h2⟩
    · obtain ⟨v, h3, h4⟩ := sP hΘ hΓ o _ hc h2
      rw [T.setK_eq] at h3
      exact ⟨ps, _, H, h, v, .d, true, h3, ⟨rfl, Nat.le_refl _, fun e => (by cases e), fun _ => h1, fun _ _ => ⟨h4, rfl⟩, fun _ e => (by cases e), fun _ e => (by cases e), fun _ e => (by cases e)⟩, hps, fun _ => rfl, fun e => (by cases e), fun _ => rfl, fun e => (by cases e)⟩
    · rw [T.setK_eq] at h2
      exact ⟨ps, _, H, h, .x, .d, false, h2, ⟨rfl, Nat.le_refl _, fun _ => ⟨h1, rfl, rfl⟩, fun e => (by cases e), fun e => (by cases e), fun e => (by cases e), fun e => (by cases e), fun e => (by cases e)⟩, hps, fun _ => rfl, fun e => (by cases e), fun _ => rfl, fun e => (by cases e)⟩
  | @r q op hd hc =>
    subst hd
    rcases gd_some (show gd fr g (exR op Γ fr H (fun v => fr.setK .x v q (fun f => K (some ⟨op, fr, v, h.nx⟩ :: ps) f H h))) (fr.setK .x .x q (fun f => K (none :: ps) f H h)) = some out from hk) with ⟨h1, h2⟩ | ⟨h1, h2⟩
    · obtain ⟨v, h3, h4⟩ := sR (P := P) (CV := CV) hΘ hΓ o _ H _ hc h2
      rw [T.setK_eq] at h3
      refine ⟨_, _, H, h, v, .d, true, h3, ⟨rfl, Nat.le_refl _, fun e => (by cases e), fun _ => h1, fun _ e => (by cases e), fun _ _ => ⟨h4, rfl⟩, fun _ e => (by cases e), fun _ e => (by cases e)⟩, ?_, fun _ => rfl, fun e => (by cases e), fun e => absurd rfl e, fun _ => ⟨_, rfl, fun _ => ⟨_, rfl, hc, rfl, rfl, rfl⟩⟩⟩
      intro p hp
      rcases List.mem_cons.1 hp with e | hp
      · injection e with e; subst e; exact ⟨o, hc⟩
      · exact hps p hp
    · rw [T.setK_eq] at h2
      refine ⟨_, _, H, h, .x, .d, false, h2, ⟨rfl, Nat.le_refl _, fun _ => ⟨h1, rfl, rfl⟩, fun e => (by cases e), fun e => (by cases e), fun e => (by cases e), fun e => (by cases e), fun e => (by cases e)⟩, ?_, fun _ => rfl, fun e => (by cases e), fun e => absurd rfl e, fun _ => ⟨_, rfl, fun e => (by cases e)⟩⟩
      intro p hp
      rcases List.mem_cons.1 hp with e | hp
      · cases e
      · exact hps p hp
  | @a q op hd hc =>
    subst hd
    rcases gd_some (show gd fr g (exA op fr (fun row mk => h.newK row (fun r h' => fr.setK .x (.a (mk r)) q (fun f => K ps f H h')))) (fr.setK .x .x q (fun f => K ps f H h)) = some out from hk) with ⟨h1, h2⟩ | ⟨h1, h2⟩
    · obtain ⟨row, mk, h3, h4⟩ := sA (P := P) (CV := CV) (σ := σ) hΘ o _ _ hc h2
      rw [newK_eq, T.setK_eq] at h3
      exact ⟨ps, _, H, _, _, row, true, h3, ⟨rfl, by simp only [Pp.toNat_succ]; omega, fun e => (by cases e), fun _ => h1, fun _ e => (by cases e), fun _ e => (by cases e), fun _ _ => ⟨mk, h4, rfl, rfl⟩, fun _ e => (by cases e)⟩, hps, fun _ => rfl, fun e => (by cases e), fun _ => rfl, fun e => (by cases e)⟩
    · rw [T.setK_eq] at h2
      exact ⟨ps, _, H, h, .x, .d, false, h2, ⟨rfl, Nat.le_refl _, fun _ => ⟨h1, rfl, rfl⟩, fun e => (by cases e), fun e => (by cases e), fun e => (by cases e), fun e => (by cases e), fun e => (by cases e)⟩, hps, fun _ => rfl, fun e => (by cases e), fun _ => rfl, fun e => (by cases e)⟩
  | c hc => exact chain rfl hk
  | k ho hc hp hx => exact chain rfl hk
  | v ho hc hf hx => exact chain rfl hk
  | n => exact chain rfl hk
end
end
end Go.Ev

