/- IrChecks: E14. -/
import Derived.Test.YtbpccmnalhdpmaaJ27
set_option linter.unusedVariables false
namespace Go.Ev
open Go.RowKit Go.Fw
noncomputable section

/-! from the program's form to the evaluator's -/
def cvD (N : Nat) : Option Nat → Option (Option Pp)
  | none => some none
  | some d => bif Nat.blt d N then (toPo 20 d).map some else none
def cvG (ops : Array Oper) : Option (Nat × Bool) → Option (Option (Pp × Bool))
  | none => some none
  | some (j, b) => ((ops[j]?).bind (·.dst)).bind fun t => (toPo 20 t).map fun p => some (p, b)
def cvK (d : Option Pp) (g : Option (Pp × Bool)) : Op → Option I
  | .call c => match c.callee with
    | .value (.func k) => (toPo 20 k).bind fun fp => (cvXs c.args.toList).map fun xs => .k d g k fp xs
    | .value (.tmp t) => (cvX (.tmp t)).bind fun x => (cvXs c.args.toList).map fun xs => .v d g x xs
    | _ => some (.c d g .no)
  | _ => some (.c d g .no)
def cvIt (Θ : T (Option TyI)) (N : Nat) (ops : Array Oper) (o : Oper) : Option I :=
  (cvD N o.dst).bind fun d => (cvG ops o.guard).bind fun g =>
    match d, cvP Θ o.op with
    | some d, some op => some (.p d g op)
    | d, _ => match d, cvR Θ o.op with
      | some d, some op => some (.r d g op)
      | d, _ => match d, cvAl Θ o.op with
        | some d, some op => some (.a d g op)
        | d, _ => match cvCh Θ o.op with
          | some op => some (.c d g op)
          | none => cvK d g o.op
/-- the ways in which an item stands for an operation -/
inductive IsI (Θ : T (Option TyI)) (o : Oper) (d : Option Pp) (g : Option (Pp × Bool)) : I → Prop
  | p {q op} (hd : d = some q) (h : cvP Θ o.op = some op) : IsI Θ o d g (.p q g op)
  | r {q op} (hd : d = some q) (h : cvR Θ o.op = some op) : IsI Θ o d g (.r q g op)
  | a {q op} (hd : d = some q) (h : cvAl Θ o.op = some op) : IsI Θ o d g (.a q g op)
  | c {op} (h : cvCh Θ o.op = some op) : IsI Θ o d g (.c d g op)
  | k {c k fp xs} (h : o.op = .call c) (hc : c.callee = .value (.func k)) (hp : toPo 20 k = some fp) (hx : cvXs c.args.toList = some xs) : IsI Θ o d g (.k d g k fp xs)
  | v {c x x' xs} (h : o.op = .call c) (hc : c.callee = .value x) (hf : cvX x = some x') (hx : cvXs c.args.toList = some xs) : IsI Θ o d g (.v d g x' xs)
  | n : IsI Θ o d g (.c d g .no)
theorem cvK_is {Θ : T (Option TyI)} {o : Oper} {d : Option Pp} {g : Option (Pp × Bool)} {i : I} (h : cvK d g o.op = some i) : IsI Θ o d g i := by
  unfold cvK at h
  split at h
  · rename_i c hc
    split at h
    · rename_i k hk
      obtain ⟨fp, h1, h2⟩ := Option.bind_eq_some_iff.1 h
      obtain ⟨xs, h3, rfl⟩ := Option.map_eq_some_iff.1 h2
      exact .k hc hk h1 h3
    · rename_i t hk
      obtain ⟨x, h1, h2⟩ := Option.bind_eq_some_iff.1 h
      obtain ⟨xs, h3, rfl⟩ := Option.map_eq_some_iff.1 h2
      exact .v hc hk h1 h3
    · cases h; exact .n
  · cases h; exact .n
theorem cvIt_is {Θ : T (Option TyI)} {N : Nat} {ops : Array Oper} {o : Oper} {i : I} (h : cvIt Θ N ops o = some i) : ∃ d g, cvD N o.dst = some d ∧ cvG ops o.guard = some g ∧ IsI Θ o d g i := by
  obtain ⟨d, h1, h2⟩ := Option.bind_eq_some_iff.1 h
  obtain ⟨g, h3, h4⟩ := Option.bind_eq_some_iff.1 h2
  refine ⟨d, g, h1, h3, ?_⟩
  split at h4
  · rename_i q op hp
    cases h4; exact .p rfl hp
  · split at h4
    · rename_i q op hp _
      cases h4; exact .r rfl hp
    · split at h4
      · rename_i q op hp _ _
        cases h4; exact .a rfl hp
      · split at h4
        · rename_i op hp
          cases h4; exact .c hp
        · exact cvK_is h4

/-! frames -/
def frOf (a : Act) : Fr := fun t => a.tmps.getD t undef
theorem eval_eq (a : Act) : a.eval = ev (frOf a) := by funext x; cases x <;> rfl
section
variable {P : Program} {Θ : T (Option TyI)} {CV : T (Option Site)} {σ : Nat → Int} {Γ : Env}
theorem FrR.xr {η : Eta} {fr : T V} {a : Act} (h : FrR σ η fr a.tmps) (xs : List Operand) : XR σ η fr (frOf a) xs := fun t _ p hp => by
  have := h p
  rw [hp] at this; exact this
theorem FrR.put {η : Eta} {fr : T V} {a : Act} (h : FrR σ η fr a.tmps) {d : Nat} {q : Pp} (hq : q.toNat = d) (hd : d < a.tmps.size) {v : V} {v' : Value} (hv : Dv σ η v v') : FrR σ η (T.set .x v q fr) (a.put (some d) v').tmps := by
  intro p
  rw [T.get_set]
  show Dv σ η _ ((a.tmps.setIfInBounds d v').getD p.toNat undef)
  by_cases e : p = q
  · subst e
    rw [if_pos rfl, hq]
    simp [hd]; exact hv
  · rw [if_neg e]
    have hne : p.toNat ≠ d := fun e' => e (ppInj (by omega))
    have := h p
    simp only [Array.getD_eq_getD_getElem?] at this ⊢
    rw [Array.getElem?_setIfInBounds_ne (Ne.symm hne)]
    exact this
theorem cvD_some {N d : Nat} {q : Option Pp} (h : cvD N (some d) = some q) : d < N ∧ ∃ p : Pp, q = some p ∧ p.toNat = d := by
  unfold cvD at h
  cases hb : Nat.blt d N with
  | false => simp only [hb] at h; cases h
  | true =>
    simp only [hb, cond_true] at h
    obtain ⟨p, h1, rfl⟩ := Option.map_eq_some_iff.1 h
    exact ⟨Nat.blt_eq.mp hb, p, rfl, toPo_some h1⟩
theorem put_eq (fr : T V) (d : Option Pp) (v : V) (K : T V → R) : put fr d v K = K (match d with | some p => T.set .x v p fr | none => fr) := by
  cases d with
  | none => rfl
  | some p => exact T.setK_eq _ _ _ _ _
def setO (fr : T V) (d : Option Pp) (v : V) : T V := match d with | some p => T.set .x v p fr | none => fr
theorem FrR.putO {η : Eta} {fr : T V} {a : Act} (h : FrR σ η fr a.tmps) {N : Nat} (hN : a.tmps.size = N) {dst : Option Nat} {d : Option Pp} (hd : cvD N dst = some d) {v : V} {v' : Value} (hv : Dv σ η v v') : FrR σ η (setO fr d v) (a.put dst v').tmps ∧ (a.put dst v').tmps.size = N ∧ (a.put dst v').defers = a.defers := by
  cases dst with
  | none => cases hd; exact ⟨h, hN, rfl⟩
  | some k =>
    obtain ⟨h1, p, rfl, h2⟩ := cvD_some hd
    exact ⟨h.put h2 (by omega) hv, by simp [Act.put, hN], rfl⟩
/-- whether an operation comes up -/
def gOk (fr : T V) : Option (Pp × Bool) → Option Bool
  | none => some true
  | some (p, b) => match fr.get .x p with
    | .a (.b t) => some (t == b)
    | .x => some false
    | _ => none
theorem gd_some {fr : T V} {g : Option (Pp × Bool)} {kT kF : R} {out : Out} (h : gd fr g kT kF = some out) : (gOk fr g = some true ∧ kT = some out) ∨ (gOk fr g = some false ∧ kF = some out) := by
  cases g with
  | none => exact .inl ⟨rfl, h⟩
  | some p =>
    obtain ⟨p, b⟩ := p
    have h0 : V.rec (motive := fun _ => R) (fun a => a.bK (fun t => Bool.rec (motive := fun _ => R) kF kT (Bool.rec (motive := fun _ => Bool) (not b) b t))) (fun _ => none) (fun _ => none) kF (fr.get .x p) = some out := h
    have he : gOk fr (some (p, b)) = (match fr.get .x p with | .a (.b t) => some (t == b) | .x => some false | _ => none) := rfl
    rw [he]
    cases hv : fr.get .x p with
    | a x =>
      rw [hv] at h0
      obtain ⟨t, rfl, h1⟩ := bK_some h0
      cases t <;> cases b <;> first | exact .inl ⟨rfl, h1⟩ | exact .inr ⟨rfl, h1⟩
    | g _ => rw [hv] at h0; cases h0
    | t _ => rw [hv] at h0; cases h0
    | x => rw [hv] at h0; exact .inr ⟨rfl, h0⟩
/-- the slot that a guard reads -/
def gSlot (ops : Array Oper) : Option (Nat × Bool) → Option Nat
  | none => none
  | some (j, _) => (ops[j]?).bind (·.dst)
theorem wanted_of {ops : Array Oper} {o : Oper} {g : Option (Pp × Bool)} {t : Bool} {η : Eta} {fr : T V} {tmps : Array Value} (hg : cvG ops o.guard = some g) (hk : gOk fr g = some t) (hx : ∀ k, gSlot ops o.guard = some k → ∀ p : Pp, p.toNat = k → Dv σ η (fr.get .x p) (tmps.getD k undef)) : Region.wanted o (yielded ops tmps) = t := by
  unfold Region.wanted
  cases hgd : o.guard with
  | none => rw [hgd] at hg; cases hg; cases hk; rfl
  | some jb =>
    obtain ⟨j, b⟩ := jb
    rw [hgd] at hg hx
    obtain ⟨k, h1, h2⟩ := Option.bind_eq_some_iff.1 hg
    obtain ⟨p, h3, rfl⟩ := Option.map_eq_some_iff.1 h2
    have hp := toPo_some h3
    have hd := hx k h1 p hp
    unfold gOk at hk
    simp only at hk
    have hy : yielded ops tmps j = (match tmps.getD k undef with | .bool b => some b | _ => none) := by
      unfold yielded
      rw [h1]
      simp only [Option.bind_some]
      rw [Array.getD_eq_getD_getElem?]
      cases hc : tmps[k]? with
      | some v => cases v <;> rfl
      | none => rfl
    simp only [hy]
    split at hk
    · rename_i t' hfr
      rw [hfr] at hd
      have hd : tmps.getD k undef = .bool t' := hd
      rw [hd]
      have hk := Option.some.inj hk
      rw [← hk]
      cases t' <;> cases b <;> rfl
    · rename_i hfr
      rw [hfr] at hd
      have hd : tmps.getD k undef = undef := hd
      rw [hd]
      have hk := Option.some.inj hk
      rw [← hk]
      rfl
    · cases hk

/-! what operations do, as the machine does them -/
def Fok (F : Fence) (w : World) : Prop := F = Fence.wide ∨ ∃ l L, F = Fence.wide.inRound l ∧ w.heap[l]? = some (Obj.loop L)
theorem Fok.step {F : Fence} {w w' : World} {η η' : Eta} {h h' : AH} (hF : Fok F w) (s : Stp η h w η' h' w') : Fok F w' := by
  rcases hF with h1 | ⟨l, L, h1, h2⟩
  · exact .inl h1
  · obtain ⟨L', h3⟩ := s.loops l L h2
    exact .inr ⟨l, L', h1, h3⟩
theorem Fok.fn {F : Fence} {w : World} (hF : Fok F w) (f : FuncId) : F.fn f := by
  rcases hF with rfl | ⟨l, L, rfl, _⟩ <;> trivial
theorem Fok.depth {F : Fence} {w : World} (hF : Fok F w) : F.depth.isSome = true → 1 ≤ 0 := by
  rcases hF with rfl | ⟨l, L, rfl, _⟩ <;> (intro h; cases h)
theorem Fok.calls {F : Fence} {w : World} (hF : Fok F w) {n : Nat} {f : FuncId} {args : Array Value} {w' : World} {R : Ending → World → Prop} (h : CallsIn Fence.wide n P f args w' R) : CallsIn F n P f args w' R := by
  rcases hF with rfl | ⟨l, L, rfl, _⟩
  · exact h
  · exact h
def ODoes (P : Program) (CV : T (Option Site)) (σ : Nat → Int) (fr : T V) (h : AH) (o : Oper) (v : V) (h' : AH) : Prop :=
  ∀ (η : Eta) (a : Act) (w : World) (F : Fence) (Q : Exit → Act → World → Prop) (K : Act → World → Prop), Fok F w → XR σ η fr (frOf a) o.op.operands.toList → HRel P CV σ η h w →
    (∀ v' w' η', Dv σ η' v v' → HRel P CV σ η' h' w' → Stp η h w η' h' w' → K (a.put o.dst v') w') → o.wpIn F 0 P a w K Q
theorem wpIn_val {o : Oper} {F : Fence} {a : Act} {w w' : World} {K : Act → World → Prop} {Q : Exit → Act → World → Prop} {v : Value} (hF : Fok F w) (hnd : ∀ c, o.op ≠ .defer c) (h : (execOp (ev (frOf a)) o).run P w = .ok (.value v) w') (k : K (a.put o.dst v) w') : o.wpIn F 0 P a w K Q := by
  refine ⟨fun f _ => hF.fn f, ?_⟩
  rw [Oper.semAt_eq _ _ _ hnd, eval_eq, h]
  exact k
theorem wpIn_skp {o : Oper} {F : Fence} {a : Act} {w w' : World} {K : Act → World → Prop} {Q : Exit → Act → World → Prop} (hF : Fok F w) (hnd : ∀ c, o.op ≠ .defer c) (h : (execOp (ev (frOf a)) o).run P w = .ok .skip w') (k : K (a.put o.dst undef) w') : o.wpIn F 0 P a w K Q := by
  refine ⟨fun f _ => hF.fn f, ?_⟩
  rw [Oper.semAt_eq _ _ _ hnd, eval_eq, h]
  exact k
theorem wpIn_ent {o : Oper} {F : Fence} {a : Act} {w w' : World} {K : Act → World → Prop} {Q : Exit → Act → World → Prop} {f : FuncId} {args : Array Value} {R : Value → World → Prop} (hF : Fok F w) (hnd : ∀ c, o.op ≠ .defer c) (h : (execOp (ev (frOf a)) o).run P w = .ok (.enter f args) w') (hc : CallsIn Fence.wide 0 P f args w' (Ret R)) (k : ∀ v w'', R v w'' → K (a.put o.dst v) w'') : o.wpIn F 0 P a w K Q := by
  refine ⟨fun f _ => hF.fn f, ?_⟩
  rw [Oper.semAt_eq _ _ _ hnd, eval_eq, h]
  refine ⟨hF.depth, hF.calls (hc.mono fun e w'' he => ?_)⟩
  obtain ⟨v, rfl, hR⟩ := he
  exact k v w'' hR
theorem PDoes.o {fr : T V} {o : Oper} {v : V} {h : AH} (hnd : ∀ c, o.op ≠ .defer c) (hp : PDoes P σ fr o v) : ODoes P CV σ fr h o v h := fun η a w F Q K hF hX hh k => by
  obtain ⟨v', h1, h2⟩ := hp η (frOf a) w hX
  exact wpIn_val hF hnd h1 (k v' w η h2 hh (Stp.refl η h w))
theorem RDoes.o {fr : T V} {o : Oper} {v : V} {h : AH} (hnd : ∀ c, o.op ≠ .defer c) (hp : RDoes P CV σ fr h o v) : ODoes P CV σ fr h o v h := fun η a w F Q K hF hX hh k => by
  obtain ⟨v', h1, h2⟩ := hp η (frOf a) w hX (by rw [hh.cut]; exact hh)
  exact wpIn_val hF hnd h1 (k v' w η h2 hh (Stp.refl η h w))
theorem CDoes.o {fr : T V} {o : Oper} {v : V} {h h' : AH} (hnd : ∀ c, o.op ≠ .defer c) (hp : CDoes P CV σ fr h o v h') : ODoes P CV σ fr h o v h' := fun η a w F Q K hF hX hh k => by
  obtain ⟨w', η', h1, h2, h3⟩ := hp η (frOf a) w hX hh
  rcases h1 with ⟨v', h4, h5⟩ | ⟨h4, rfl⟩
  · exact wpIn_val hF hnd h4 (k v' w' η' h5 h2 h3)
  · exact wpIn_skp hF hnd h4 (k undef w' η' rfl h2 h3)
theorem ADoes.o {fr : T V} {o : Oper} {row : Row} {mk : Pp → A} {h : AH} (hnd : ∀ c, o.op ≠ .defer c) (hp : ADoes P CV σ fr o row mk) : ODoes P CV σ fr h o (.a (mk h.nx)) ⟨h.nx.succ, T.set .d row h.nx h.rows⟩ := fun η a w F Q K hF hX hh k => by
  obtain ⟨hne, hp⟩ := hp
  obtain ⟨v', ob, c, h1, h2, h3⟩ := hp η (frOf a) w hX
  have hle : η.le (η.add h.nx (w.heap.size, c)) := Eta.le_add (hh.dom _ (Nat.le_refl _))
  have hn := hh.new (o := ob) (c := c) (row := row) (h2.mono hle) hne
  exact wpIn_val hF hnd h1 (k v' _ _ (h3 _ _ (by simp [Eta.add])) hn.1 hn.2)
theorem cvP_nd {o : Op} {op : OP} (h : cvP Θ o = some op) : ∀ c, o ≠ .defer c := by intro c e; subst e; cases h
theorem cvR_nd {o : Op} {op : OR} (h : cvR Θ o = some op) : ∀ c, o ≠ .defer c := by intro c e; subst e; cases h
theorem cvAl_nd {o : Op} {op : OA} (h : cvAl Θ o = some op) : ∀ c, o ≠ .defer c := by intro c e; subst e; cases h
theorem cvCh_nd {o : Op} {op : OC} (h : cvCh Θ o = some op) : ∀ c, o ≠ .defer c := by intro c e; subst e; cases h
end
end
end Go.Ev

