/- IrChecks: E17. -/
import Derived.Test.YtbpccmnalhdpmaaJ30
set_option linter.unusedVariables false
namespace Go.Ev
open Go.RowKit Go.Fw
noncomputable section
section
variable {P : Program} {Θ : T (Option TyI)} {CV : T (Option Site)} {σ : Nat → Int} {Γ : Env} (hΘ : Θ.All (TyQ P)) (hΓ : Γ.Ok σ) {CR : Nat → Code → RC → Prop} (hfn : Γ.fns.All (FnQ P Θ CR)) {rn : Rn} (hrn : RnOk P CV CR σ Γ rn)
theorem xsK_some {fr : T V} : ∀ {xs : List X} {K : List V → R} {out : Out}, xsK fr xs K = some out → K (xs.map (rdX fr)) = some out
  | [], K, out, h => h
  | x :: xs, K, out, h => by
    have h0 : (rdX fr x).frc (fun v => xsK fr xs (fun l => K (v :: l))) = some out := h
    rw [frc_V] at h0
    exact xsK_some (xs := xs) (K := fun l => K (rdX fr x :: l)) h0
theorem capV_eq : ∀ c : List (Pp × Nat), capV c = c.map fun p => .a (.p p.1 p.2)
  | [] => rfl
  | p :: c => by show V.a _ :: capV c = _; rw [capV_eq c]; rfl
theorem appV_eq : ∀ l m : List V, appV l m = l ++ m
  | [], _ => rfl
  | v :: l, m => by show v :: appV l m = _; rw [appV_eq l m]; rfl
theorem capV_ok {η : Eta} : ∀ {c : List (Pp × Nat)} {vs : List Value}, Dcaps η c vs → DVL σ η (capV c) vs
  | [], _, h => h
  | (r, o) :: c, _, ⟨b, cc, vs', h1, h2, h3⟩ => ⟨_, vs', h2, ⟨b, cc, h1, rfl⟩, capV_ok h3⟩
theorem DVL.append {η : Eta} : ∀ {l r : List V} {vs us : List Value}, DVL σ η l vs → DVL σ η r us → DVL σ η (l ++ r) (vs ++ us)
  | [], _, _, _, hd, h => by rw [show _ = _ from hd]; exact h
  | _ :: _, _, _, _, ⟨v, vs', h1, h2, h3⟩, h => by rw [h1]; exact ⟨v, _, rfl, h2, DVL.append h3 h⟩
theorem wpIn_rnd {o : Oper} {F : Fence} {a : Act} {w w' : World} {K : Act → World → Prop} {Q : Exit → Act → World → Prop} {l : Nat} {f : FuncId} {tmps : Array Value} {as bd : Code} {R : Value → World → Prop} (hF : Fok F w) (hnd : ∀ c, o.op ≠ .defer c) (h : (execOp (ev (frOf a)) o).run P w = .ok (.round l f tmps as bd) w')
    (hc : RoundIn Fence.wide 0 P l f tmps as bd w' (Ret R)) (k : ∀ v w'', R v w'' → K (a.put o.dst v) w'') : o.wpIn F 0 P a w K Q := by
  refine ⟨fun f _ => hF.fn f, ?_⟩
  rw [Oper.semAt_eq _ _ _ hnd, eval_eq, h]
  have hc' : RoundIn F 0 P l f tmps as bd w' (Ret R) := by
    rcases hF with rfl | ⟨l, L, rfl, _⟩
    · exact hc
    · exact hc
  refine ⟨hF.depth, hc'.mono fun e w'' he => ?_⟩
  obtain ⟨v, rfl, hR⟩ := he
  exact k v w'' hR
/-- what an item does -/
def ItemDoes (P : Program) (CV : T (Option Site)) (σ : Nat → Int) (fr : T V) (h : AH) (o : Oper) (g : Option (Pp × Bool)) (v : V) (h' : AH) : Prop :=
  (gOk fr g = some true ∧ ODoes P CV σ fr h o v h') ∨ (gOk fr g = some false ∧ v = .x ∧ h' = h)
include hΘ hfn hrn in
theorem kDoes {fr : T V} {h : AH} {o : Oper} {c : Call} {k : Nat} {fp : Pp} {xs : List X} {K : V → AH → R} {out : Out} (ho : o.op = .call c) (hc : c.callee = .value (.func k)) (hp : toPo 20 k = some fp) (hx : cvXs c.args.toList = some xs) (hk : callK Γ rn fp (xs.map (rdX fr)) h K = some out) :
    ∃ v h', K v h' = some out ∧ ODoes P CV σ fr h o v h' := by
  obtain ⟨v, h', g1, g2, g3⟩ := callK_some hΘ hfn hrn hk
  refine ⟨v, h', g1, fun η a w F Q KK hF hX hh kk => ?_⟩
  obtain ⟨dst, op, ty, pos, af, gd⟩ := o
  simp only at ho
  subst ho
  obtain ⟨c1, c2, c3⟩ := c
  simp only at hc hx
  subst hc
  have hargs := hX.list (l := c2.toList) (by intro x hx; simp [Op.operands, Call.operands]; right; simpa using hx) hx
  rw [toPo_some hp] at g2 g3
  have hcall := g2 η _ w hargs hh
  have he := eCall (P := P) (w := w) (ρ := ev (frOf a)) (d := dst) (ty := ty) (pos := pos) (af := af) (g := gd) (xs := c2.toList) (ts := c3) g3 rfl
  rw [show c2.toList.toArray = c2 by simp] at he
  exact wpIn_ent hF (fun c e => by cases e) he hcall fun v' w' hR => by
    obtain ⟨η', e1, e2, e3⟩ := hR
    exact kk v' w' η' e1 e2 e3
include hΘ hfn hrn in
theorem vDoes {fr : T V} {h : AH} {o : Oper} {c : Call} {x : Operand} {x' : X} {xs : List X} {K : V → AH → R} {out : Out} (ho : o.op = .call c) (hc : c.callee = .value x) (hf : cvX x = some x') (hx : cvXs c.args.toList = some xs) (hk : funK Γ rn (rdX fr x') (xs.map (rdX fr)) h K = some out) :
    ∃ v h', K v h' = some out ∧ ODoes P CV σ fr h o v h' := by
  obtain ⟨dst, op, ty, pos, af, gd⟩ := o
  simp only at ho
  subst ho
  obtain ⟨c1, c2, c3⟩ := c
  simp only at hc hx
  subst hc
  obtain ⟨q, hq, g0⟩ := aK_some hk
  rcases fK_some g0 with ⟨f, caps, rfl, g1⟩ | ⟨r, rfl, g1⟩
  · obtain ⟨fp, hfp, g2⟩ := toPK_some _ _ _ _ g1
    obtain ⟨v, h', g3, g4, g5⟩ := callK_some hΘ hfn hrn g2
    refine ⟨v, h', g3, fun η a w F Q KK hF hX hh kk => ?_⟩
    have hargs := hX.list (l := c2.toList) (by intro x hx; simp [Op.operands, Call.operands]; right; simpa using hx) hx
    have dx := hX.get (x := x) (by simp [Op.operands, Call.operands]) hf
    rw [hq] at dx
    obtain ⟨vs, d1, d2⟩ := dx
    rw [hfp] at g4 g5
    rw [appV_eq] at g4
    have hcall := g4 η _ w (hargs.append (capV_ok d1)) hh
    have he := eClos (P := P) (w := w) (ρ := ev (frOf a)) (d := dst) (ty := ty) (pos := pos) (af := af) (g := gd) (x := x) (xs := c2.toList) (ts := c3) (cap := vs) g5 d2
    rw [show c2.toList.toArray = c2 by simp] at he
    exact wpIn_ent hF (fun c e => by cases e) he hcall fun v' w' hR => by
      obtain ⟨η', e1, e2, e3⟩ := hR
      exact kk v' w' η' e1 e2 e3
  · obtain ⟨v, h', g3, g4⟩ := roundK_some hrn g1
    refine ⟨v, h', g3, fun η a w F Q KK hF hX hh kk => ?_⟩
    have hargs := hX.list (l := c2.toList) (by intro x hx; simp [Op.operands, Call.operands]; right; simpa using hx) hx
    have dx := hX.get (x := x) (by simp [Op.operands, Call.operands]) hf
    rw [hq] at dx
    obtain ⟨b, c, d1, d2⟩ := dx
    obtain ⟨fn, tmps, as, bd, e1, e2⟩ := g4 η _ w b c d1 hargs hh
    have he : (execOp (ev (frOf a)) ⟨dst, .call { callee := .value x, args := c2, argTypes := c3 }, ty, pos, af, gd⟩).run P w = .ok (.round b fn tmps as bd) w := by
      have hm : c2.map (ev (frOf a)) = (c2.toList.map (ev (frOf a))).toArray := by apply Array.ext'; simp
      simp [execOp, resolve, d2, Deferred.ofValue, invoke, hm, e1]
    exact wpIn_rnd hF (fun c e => by cases e) he e2 fun v' w' hR => by
      obtain ⟨η', e1, e2, e3⟩ := hR
      exact kk v' w' η' e1 e2 e3
include hΘ hΓ hfn hrn in
theorem exI_some {fr : T V} {h : AH} {o : Oper} {d : Option Pp} {g : Option (Pp × Bool)} {i : I} {K : T V → AH → R} {out : Out} (hi : IsI Θ o d g i) (hk : exI i Γ rn fr h K = some out) : ∃ v h', K (setO fr d v) h' = some out ∧ ItemDoes P CV σ fr h o g v h' := by
  cases hi with
  | p hd hc =>
    subst hd
    rcases gd_some (show gd fr g _ _ = some out from hk) with ⟨h1, h2⟩ | ⟨h1, h2⟩
    · obtain ⟨v, h3, h4⟩ := sP hΘ hΓ o _ hc h2
      rw [T.setK_eq] at h3
      exact ⟨v, h, h3, .inl ⟨h1, h4.o (cvP_nd hc)⟩⟩
    · rw [T.setK_eq] at h2
      exact ⟨.x, h, h2, .inr ⟨h1, rfl, rfl⟩⟩
  | r hd hc =>
    subst hd
    rcases gd_some (show gd fr g _ _ = some out from hk) with ⟨h1, h2⟩ | ⟨h1, h2⟩
    · obtain ⟨v, h3, h4⟩ := sR (P := P) (CV := CV) hΘ hΓ o _ h _ hc h2
      rw [T.setK_eq] at h3
      exact ⟨v, h, h3, .inl ⟨h1, h4.o (cvR_nd hc)⟩⟩
    · rw [T.setK_eq] at h2
      exact ⟨.x, h, h2, .inr ⟨h1, rfl, rfl⟩⟩
  | a hd hc =>
    subst hd
    rcases gd_some (show gd fr g _ _ = some out from hk) with ⟨h1, h2⟩ | ⟨h1, h2⟩
    · obtain ⟨row, mk, h3, h4⟩ := sA (P := P) (CV := CV) (σ := σ) hΘ o _ _ hc h2
      rw [newK_eq, T.setK_eq] at h3
      exact ⟨_, _, h3, .inl ⟨h1, h4.o (cvAl_nd hc)⟩⟩
    · rw [T.setK_eq] at h2
      exact ⟨.x, h, h2, .inr ⟨h1, rfl, rfl⟩⟩
  | c hc =>
    rcases gd_some (show gd fr g _ _ = some out from hk) with ⟨h1, h2⟩ | ⟨h1, h2⟩
    · obtain ⟨v, h', h3, h4⟩ := sC (P := P) (CV := CV) hΘ hΓ o _ h _ hc h2
      rw [put_eq] at h3
      exact ⟨v, h', h3, .inl ⟨h1, h4.o (cvCh_nd hc)⟩⟩
    · rw [put_eq] at h2
      exact ⟨.x, h, h2, .inr ⟨h1, rfl, rfl⟩⟩
  | k ho hc hp hx =>
    rcases gd_some (show gd fr g _ _ = some out from hk) with ⟨h1, h2⟩ | ⟨h1, h2⟩
    · obtain ⟨v, h', h3, h4⟩ := kDoes hΘ hfn hrn ho hc hp hx (xsK_some h2)
      rw [put_eq] at h3
      exact ⟨v, h', h3, .inl ⟨h1, h4⟩⟩
    · rw [put_eq] at h2
      exact ⟨.x, h, h2, .inr ⟨h1, rfl, rfl⟩⟩
  | v ho hc hf hx =>
    rcases gd_some (show gd fr g _ _ = some out from hk) with ⟨h1, h2⟩ | ⟨h1, h2⟩
    · obtain ⟨v, h', h3, h4⟩ := vDoes hΘ hfn hrn ho hc hf hx (xsK_some h2)
      rw [put_eq] at h3
      exact ⟨v, h', h3, .inl ⟨h1, h4⟩⟩
    · rw [put_eq] at h2
      exact ⟨.x, h, h2, .inr ⟨h1, rfl, rfl⟩⟩
  | n =>
    rcases gd_some (show gd fr g _ _ = some out from hk) with ⟨h1, h2⟩ | ⟨h1, h2⟩
    · cases h2
    · rw [put_eq] at h2
      exact ⟨.x, h, h2, .inr ⟨h1, rfl, rfl⟩⟩
def cvIs (Θ : T (Option TyI)) (N : Nat) (ops : Array Oper) : List Oper → Option (List I)
  | [] => some []
  | o :: l => (cvIt Θ N ops o).bind fun i => (cvIs Θ N ops l).map (i :: ·)
/-- where the machine stands -/
structure Stt (P : Program) (CV : T (Option Site)) (σ : Nat → Int) (N base : Nat) (η0 : Eta) (h0 : AH) (w0 : World) (F : Fence) (fr : T V) (h : AH) (η : Eta) (a : Act) (w : World) : Prop where
  F : Fok F w
  hh : HRel P CV σ η h w
  fr : FrR σ η fr a.tmps
  N : a.tmps.size = N
  df : DfR base w a.defers
  st : Stp η0 h0 w0 η h w
theorem Stt.next {N base : Nat} {η0 : Eta} {h0 : AH} {w0 : World} {F : Fence} {fr : T V} {h h' : AH} {η η' : Eta} {a : Act} {w w' : World} {v : V} {v' : Value} {dst : Option Nat} {d : Option Pp} (hdom : ∀ r : Pp, h0.nx.toNat ≤ r.toNat → η0 r = none)
    (s : Stt P CV σ N base η0 h0 w0 F fr h η a w) (hd : cvD N dst = some d) (hv : Dv σ η' v v') (hh : HRel P CV σ η' h' w') (hs : Stp η h w η' h' w') : Stt P CV σ N base η0 h0 w0 F (setO fr d v) h' η' (a.put dst v') w' := by
  obtain ⟨f1, f2, f3⟩ := (s.fr.mono hs.le).putO s.N hd hv
  exact ⟨s.F.step hs, hh, f1, f2, by rw [f3]; exact s.df.step s.hh hs, Stp.trans hdom s.st hs⟩
theorem FrR.slot {η : Eta} {fr : T V} {tmps : Array Value} (h : FrR σ η fr tmps) {ops : Array Oper} {gd : Option (Nat × Bool)} : ∀ k, gSlot ops gd = some k → ∀ p : Pp, p.toNat = k → Dv σ η (fr.get .x p) (tmps.getD k undef) := fun k _ p hp => by
  have := h p
  rw [hp] at this; exact this
include hΘ hΓ hfn hrn in
theorem regK_some {N : Nat} {ops : Array Oper} : ∀ {l : List I} {rest pre : List Oper} {fr : T V} {h : AH} {K : T V → AH → R} {out : Out}, ops.toList = pre ++ rest → cvIs Θ N ops rest = some l → regK l Γ rn fr h K = some out →
    ∃ fr' h', K fr' h' = some out ∧ ∀ base η0 h0 w0 F η a w Q, (∀ r : Pp, h0.nx.toNat ≤ r.toNat → η0 r = none) → Stt P CV σ N base η0 h0 w0 F fr h η a w → (∀ η' a' w', Stt P CV σ N base η0 h0 w0 F fr' h' η' a' w' → Q .normal a' w') → wpOpsIn F 0 P ops Q (List.range' pre.length rest.length) a w
  | l, [], pre, fr, h, K, out, _, hc, hk => by
    cases hc
    exact ⟨fr, h, hk, fun base η0 h0 w0 F η a w Q _ s kk => kk η a w s⟩
  | l, o :: rest, pre, fr, h, K, out, hops, hc, hk => by
    obtain ⟨i, h1, h2⟩ := Option.bind_eq_some_iff.1 hc
    obtain ⟨l', h3, rfl⟩ := Option.map_eq_some_iff.1 h2
    obtain ⟨d, g, hd, hg, his⟩ := cvIt_is h1
    obtain ⟨v, h', g1, g2⟩ := exI_some hΘ hΓ hfn hrn his (show exI i Γ rn fr h (fun fr' h' => regK l' Γ rn fr' h' K) = some out from hk)
    obtain ⟨fr', h'', g3, g4⟩ := regK_some (l := l') (rest := rest) (pre := pre ++ [o]) (by rw [hops]; simp) h3 g1
    refine ⟨fr', h'', g3, fun base η0 h0 w0 F η a w Q hdom s kk => ?_⟩
    have ho : ops[pre.length]? = some o := by
      have : ops.toList[pre.length]? = some o := by rw [hops]; simp
      simpa using this
    rw [List.length_cons, List.range'_succ]
    simp only [wpOpsIn, ho]
    rcases g2 with ⟨q1, q2⟩ | ⟨q1, rfl, rfl⟩
    · have hw := wanted_of (σ := σ) (η := η) (tmps := a.tmps) hg q1 s.fr.slot
      rw [if_pos hw]
      refine q2 η a w F Q _ s.F (s.fr.xr _) s.hh fun v' w' η' e1 e2 e3 => ?_
      have := g4 base η0 h0 w0 F η' (a.put o.dst v') w' Q hdom (s.next hdom hd e1 e2 e3) kk
      simpa using this
    · have hw := wanted_of (σ := σ) (η := η) (tmps := a.tmps) hg q1 s.fr.slot
      rw [if_neg (by rw [hw]; simp)]
      refine ⟨fun f _ => s.F.fn f, ?_⟩
      have := g4 base η0 h0 w0 F η (a.put o.dst undef) w Q hdom (s.next (v := .x) hdom hd rfl s.hh (Stp.refl _ _ _)) kk
      simpa using this
end
end
end Go.Ev

