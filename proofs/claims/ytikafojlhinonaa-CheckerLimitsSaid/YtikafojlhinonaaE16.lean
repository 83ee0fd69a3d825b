/- The evaluator: calls and rounds. -/
import Derived.Test.YtikafojlhinonaaE15
import Derived.RangeFuncRecord
import Derived.RecoverIn
set_option linter.unusedVariables false
namespace Go.Ev
open Go.RowKit Go.Fw
noncomputable section
/-- a function of the table -/
def FnQ (P : Program) (Θ : T (Option TyI)) (CR : Nat → Code → RC → Prop) (k : Nat) (o : Option RF) : Prop :=
  match o with
  | none => True
  | some rf => ∃ fn c, P.funcs[k]? = some fn ∧ Callable P k ∧ fn.body = some c ∧ (∀ (i : Nat) (p : Pp), rf.ps[i]? = some p → p.toNat = i) ∧ rf.ps.length ≤ fn.ntmps ∧ CR fn.ntmps c rf.body ∧ cvRs Θ fn.results.toList = some rf.res ∧ (rf.nr = true → norf c = true)
section
variable {P : Program} {Θ : T (Option TyI)} {CV : T (Option Site)} {σ : Sg} {Γ : Env} (hΘ : Θ.All (TyQ P)) {CR : Nat → Code → RC → Prop} (hfn : Γ.fns.All (FnQ P Θ CR)) (hΓ : Γ.Ok σ) {rn : Rn} (hrn : RnOk P Θ CV CR σ Γ rn)
theorem DVL.len {η : Eta} : ∀ {l : List V} {vs : List Value}, DVL σ η l vs → vs.length = l.length
  | [], _, hd => by rw [show _ = _ from hd]; rfl
  | _ :: _, _, ⟨v, vs', h1, h2, h3⟩ => by rw [h1]; simp [DVL.len h3]
theorem DVL.get {η : Eta} : ∀ {l : List V} {vs : List Value}, DVL σ η l vs → ∀ {i : Nat} {a : V}, l[i]? = some a → ∃ v, vs[i]? = some v ∧ Dv σ η a v
  | [], _, _, _, _, h => by simp at h
  | _ :: l, _, ⟨v, vs', h1, h2, h3⟩, i, a, h => by
    subst h1
    cases i with
    | zero => simp at h; subst h; exact ⟨v, rfl, h2⟩
    | succ i => simp at h; obtain ⟨u, hu, hd⟩ := DVL.get h3 h; exact ⟨u, by simpa using hu, hd⟩
theorem argsB_some : ∀ {ps : List Pp} {vs : List V} {fr : T V} {K : T V → R} {out : Out} {k : Nat}, argsB ps vs fr K = some out → (∀ (i : Nat) (p : Pp), ps[i]? = some p → p.toNat = k + i) →
    vs.length = ps.length ∧ ∃ fr', K fr' = some out ∧ ∀ p : Pp, fr'.get .x p = if k ≤ p.toNat ∧ p.toNat < k + vs.length then vs.getD (p.toNat - k) .x else fr.get .x p
  | [], [], fr, K, out, k, h, _ => ⟨rfl, fr, h, fun p => by rw [if_neg (by simp)]⟩
  | [], _ :: _, _, _, _, _, h, _ => by cases h
  | _ :: _, [], _, _, _, _, h, _ => by cases h
  | p :: ps, v :: vs, fr, K, out, k, h, hp => by
    have h0 : fr.setK .x v p (fun fr' => argsB ps vs fr' K) = some out := h
    rw [T.setK_eq] at h0
    obtain ⟨h1, fr', h2, h3⟩ := argsB_some (ps := ps) (vs := vs) (k := k + 1) h0 (fun i q hq => by have := hp (i + 1) q (by simpa using hq); omega)
    have hpk := hp 0 p rfl
    refine ⟨by simp [h1], fr', h2, fun q => ?_⟩
    rw [h3 q, T.get_set]
    simp only [List.length_cons]
    by_cases hq : q = p
    · subst hq
      rw [if_pos rfl, if_neg (by omega), if_pos (by omega), show q.toNat - k = 0 by omega]; rfl
    · rw [if_neg hq]
      have hne : q.toNat ≠ k := fun e => hq (ppInj (by omega))
      by_cases h4 : k + 1 ≤ q.toNat ∧ q.toNat < k + 1 + vs.length
      · rw [if_pos h4, if_pos (by omega), show q.toNat - k = (q.toNat - (k + 1)) + 1 by omega]; simp
      · rw [if_neg h4, if_neg (by omega)]
/-- the marks are taken, and the function is left -/
theorem leaves {fn : Func} {tmps : Array Value} {R : Ending → World → Prop} {η η' : Eta} {h h' : AH} {w : World} {u : FrameMode} (hu : u ≠ .run) (hR : ∀ w1, HRel P CV σ η' h' w1 → Stp η h w η' h' w1 → LeavesInM Fence.wide 0 P fn tmps R [] u w1) :
    ∀ (rs : List Nat) (w1 : World), rs.Nodup → (∀ r ∈ rs, w.heap.size ≤ r ∧ w1.heap[r]? = some (.deferred (some []))) → HRel P CV σ η' h' w1 → Stp η h w η' h' w1 →
      LeavesInM Fence.wide 0 P fn tmps R (rs.map (fun r => { target := .collected r, args := #[] }) ++ []) u w1
  | [], w1, _, _, hh, hs => hR w1 hh hs
  | r :: rs, w1, hn, hd, hh, hs => by
    obtain ⟨hr1, hr2⟩ := hd r (by simp)
    have hlt : r < w1.heap.size := (Array.getElem?_eq_some_iff.1 hr2).1
    have other : ∀ k, k ≠ r → (w1.putObj r (.deferred none)).heap[k]? = w1.heap[k]? := fun k hk => World.putObj_heap_other hk
    have hh' : HRel P CV σ η' h' (w1.putObj r (.deferred none)) := hh.same (by simp) (fun q b c hl he => other b (fun e => by subst e; exact hh.unowned hr2 q c hl he))
    have hs' : Stp η h w η' h' (w1.putObj r (.deferred none)) := by
      refine ⟨hs.le, hs.nx, hs.dead, by simpa using hs.size, fun b hb hno => ?_, hs.new, hs.os, hs.tape, hs.output, fun b L hL => ?_⟩
      · rw [other b (by omega)]; exact hs.keep b hb hno
      · have hb : b < w.heap.size := (Array.getElem?_eq_some_iff.1 hL).1
        rw [other b (by omega)]; exact hs.loops b L hL
    refine ⟨hu, .inl ⟨r, _, rfl, run_takeDeferred hr2, ?_⟩⟩
    refine leaves hu hR rs _ (List.nodup_cons.1 hn).2 (fun q hq => ⟨(hd q (by simp [hq])).1, ?_⟩) hh' hs'
    rw [other q (fun e => by subst e; exact (List.nodup_cons.1 hn).1 hq)]
    exact (hd q (by simp [hq])).2
/-- the way in which a function is left -/
def modeOf : Exit → Option FrameMode
  | .normal => some .returning
  | .ret => some .returning
  | .panic ch => some (.panicking ch)
  | _ => none
theorem body_of {fn : Func} {R : Ending → World → Prop} {x : Exit} {u : FrameMode} {a : Act} {w : World} (hm : modeOf x = some u) (h : LeavesInM Fence.wide 0 P fn a.tmps R a.defers u w) : bodyPostM Fence.wide 0 P fn R x a w := by
  cases x <;> cases hm <;> exact h
theorem mode_run {x : Exit} {u : FrameMode} (hm : modeOf x = some u) : u ≠ .run := by cases x <;> cases hm <;> exact fun e => by cases e
theorem isN_some {e : E} {a b : R} {out : Out} (h : isN e a b = some out) : (e = .nrm ∧ a = some out) ∨ (e ≠ .nrm ∧ b = some out) := by
  cases e with
  | nrm => exact .inl ⟨rfl, h⟩
  | ex i => exact .inr ⟨fun e => (by cases e), h⟩
  | rt => exact .inr ⟨fun e => (by cases e), h⟩
  | pn a => exact .inr ⟨fun e => (by cases e), h⟩
theorem then_ne {K : Act → World → Prop} {Q : Exit → Act → World → Prop} {x : Exit} {a : Act} {w : World} (hx : x ≠ .normal) (h : Q x a w) : Exit.then K Q x a w := by
  cases x <;> first | exact absurd rfl hx | exact h
theorem ExR.ne {η : Eta} {e : E} {x : Exit} (h : ExR σ η e x) (hne : e ≠ .nrm) : x ≠ .normal := by
  cases e with
  | nrm => exact absurd rfl hne
  | ex i => have h : x = .exit i := h; rw [h]; exact fun e => by cases e
  | rt => have h : x = .ret := h; rw [h]; exact fun e => by cases e
  | pn a => obtain ⟨ch, h, _⟩ := h; rw [h]; exact fun e => by cases e
include hΘ in
theorem endK_some {rs : List RR} {e : E} {fr : T V} {h : AH} {K : V → AH → R} {KP : A → AH → R} {out : Out} (hk : endK rs e fr h K KP = some out) :
    ∃ r, fin K KP r h = some out ∧ ∀ (fn : Func) (η0 : Eta) (h0 : AH) (w0 : World) (η : Eta) (w : World) (tmps : Array Value) (x : Exit), cvRs Θ fn.results.toList = some rs → ExR σ η e x → FrE σ η e fr tmps → HRel P CV σ η h w → Stp η0 h0 w0 η h w →
      ∃ u, modeOf x = some u ∧ ∀ w1, HRel P CV σ η h w1 → Stp η0 h0 w0 η h w1 → LeavesInM Fence.wide 0 P fn tmps (REnd P CV σ η0 h0 w0 r h) [] u w1 := by
  have ret : resK fr h rs (fun v => K v h) = some out → (e = .nrm ∨ e = .rt) → ∃ r, fin K KP r h = some out ∧ ∀ (fn : Func) (η0 : Eta) (h0 : AH) (w0 : World) (η : Eta) (w : World) (tmps : Array Value) (x : Exit), cvRs Θ fn.results.toList = some rs → ExR σ η e x → FrE σ η e fr tmps → HRel P CV σ η h w → Stp η0 h0 w0 η h w →
      ∃ u, modeOf x = some u ∧ ∀ w1, HRel P CV σ η h w1 → Stp η0 h0 w0 η h w1 → LeavesInM Fence.wide 0 P fn tmps (REnd P CV σ η0 h0 w0 r h) [] u w1 := by
    intro hk he
    obtain ⟨v, g1, g2⟩ := resK_some (P := P) (CV := CV) (σ := σ) hΘ hk
    refine ⟨.inl v, g1, fun fn η0 h0 w0 η w tmps x hc hx hf hh hs => ⟨.returning, ?_, fun w1 hh1 hs1 => ?_⟩⟩
    · rcases he with rfl | rfl
      · have hx : x = .normal := hx; rw [hx]; rfl
      · have hx : x = .ret := hx; rw [hx]; rfl
    · obtain ⟨v', e1, e2⟩ := g2 η tmps w1 fn hc hf.p hh1
      exact ⟨v', e1, η, ⟨v', rfl, e2⟩, hh1, hs1⟩
  cases e with
  | nrm => exact ret hk (.inl rfl)
  | rt => exact ret hk (.inr rfl)
  | ex i => cases hk
  | pn a =>
    refine ⟨.inr a, hk, fun fn η0 h0 w0 η w tmps x hc hx hf hh hs => ?_⟩
    obtain ⟨ch, rfl, hch⟩ := hx
    exact ⟨.panicking ch, rfl, fun w1 hh1 hs1 => ⟨η, ⟨ch, rfl, hch⟩, hh1, hs1⟩⟩
include hΘ hΓ in
/-- operations that look at no memory, in a region -/
theorem prK_some {N : Nat} {ops : Array Oper} {post : List Oper} : ∀ {l : List I} {rest pre : List Oper} {fr : T V} {K : T V → R} {out : Out}, ops.toList = pre ++ rest ++ post → cvIs Θ N ops rest = some l → prK l Γ fr K = some out →
    ∃ fr', K fr' = some out ∧ ∀ (Q : Exit → Act → World → Prop) (tl : List Nat) (η : Eta) (a : Act) (w : World), FrR σ η fr a.tmps → a.tmps.size = N → (∀ a', FrR σ η fr' a'.tmps → a'.tmps.size = N → a'.defers = a.defers → wpOpsIn Fence.wide 0 P ops Q tl a' w) → wpOpsIn Fence.wide 0 P ops Q (List.range' pre.length rest.length ++ tl) a w
  | l, [], pre, fr, K, out, _, hc, hk => by
    cases hc
    exact ⟨fr, hk, fun Q tl η a w hf hN kk => kk a hf hN rfl⟩
  | l, o :: rest, pre, fr, K, out, hops, hc, hk => by
    obtain ⟨i, h1, h2⟩ := Option.bind_eq_some_iff.1 hc
    obtain ⟨l', h3, rfl⟩ := Option.map_eq_some_iff.1 h2
    obtain ⟨d, g, hd, hg, his⟩ := cvIt_is h1
    cases his with
    | @p q op hdq hcp =>
      subst hdq
      have hk : gd fr g (exP op Γ fr (fun v => fr.setK .x v q (fun f => prK l' Γ f K))) none = some out := hk
      rcases gd_some hk with ⟨k1, k2⟩ | ⟨_, k2⟩
      · obtain ⟨v, k3, k4⟩ := sP hΘ hΓ o _ hcp k2
        rw [T.setK_eq] at k3
        obtain ⟨fr', g3, g4⟩ := prK_some (post := post) (l := l') (rest := rest) (pre := pre ++ [o]) (by rw [hops]; simp) h3 k3
        refine ⟨fr', g3, fun Q tl η a w hf hN kk => ?_⟩
        have ho : ops[pre.length]? = some o := by
          have : ops.toList[pre.length]? = some o := by rw [hops]; simp
          simpa using this
        rw [List.length_cons, List.range'_succ, List.cons_append]
        simp only [wpOpsIn, ho]
        have hw := wanted_of (σ := σ) (η := η) (tmps := a.tmps) hg k1 (fun k _ p hp => by have := hf p; rw [hp] at this; exact this)
        rw [if_pos hw]
        obtain ⟨v', e1, e2⟩ := k4 η (frOf a) w (hf.xr _)
        refine wpIn_val (.inl rfl) (cvP_nd hcp) e1 ?_
        obtain ⟨f1, f2, f3⟩ := hf.putO hN hd e2
        have := g4 Q tl η (a.put o.dst v') w f1 f2 (fun a' q1 q2 q3 => kk a' q1 q2 (q3.trans f3))
        simpa using this
      · cases k2
    | _ => cases hk
/-- the frame of a called function -/
theorem enter_fr {η : Eta} {N : Nat} {vs : List V} {args : List Value} {fr : T V} {ps : List Pp} (hd : DVL σ η vs args) (hl : vs.length = ps.length) (hN : ps.length ≤ N) (g2 : ∀ p : Pp, fr.get .x p = if 0 ≤ p.toNat ∧ p.toNat < 0 + vs.length then vs.getD (p.toNat - 0) .x else (T.e : T V).get .x p) :
    (args.toArray ++ Array.replicate (N - args.toArray.size) undef).size = N ∧ FrR σ η fr (args.toArray ++ Array.replicate (N - args.toArray.size) undef) := by
  have hlen := hd.len
  refine ⟨by simp; omega, fun p => ?_⟩
  rw [g2 p]
  simp only [Array.getD_eq_getD_getElem?]
  rw [Array.getElem?_append]
  by_cases hp : 0 ≤ p.toNat ∧ p.toNat < 0 + vs.length
  · rw [if_pos hp, if_pos (by simp; omega)]
    have h3 : vs[p.toNat - 0]? = some (vs.getD (p.toNat - 0) .x) := by simp [List.getElem?_eq_getElem (show p.toNat < vs.length by omega)]
    obtain ⟨u, h4, h5⟩ := hd.get h3
    rw [show args.toArray[p.toNat]? = some u by simpa using h4]
    exact h5
  · rw [if_neg hp, if_neg (by simp; omega), T.get_e, Array.getElem?_replicate]
    split <;> rfl
theorem capV_ok {η : Eta} : ∀ {c : List (Pp × Nat)} {vs : List Value}, Dcaps η c vs → DVL σ η (capV c) vs
  | [], _, h => h
  | (r, o) :: c, _, ⟨b, cc, vs', h1, h2, h3⟩ => ⟨_, vs', h2, ⟨b, cc, h1, rfl⟩, capV_ok h3⟩
theorem rvH_some {c : RC} {K : Pp → Option Pp → R} {out : Out} (h : rvH c K = some out) : ∃ d m, c = .rv d m ∧ K d m = some out := by
  cases c with
  | rv d m => exact ⟨d, m, rfl, h⟩
  | _ => cases h
def rvC (d : Pp) (m : Option Pp) (b : RC) : Option RC → RC
  | none => .seq (.rv d m) b
  | some a => .seq (.seq (.rv d m) a) b
theorem rvB_some {c : RC} {K : Pp → Option Pp → Option RC → RC → R} {out : Out} (h : rvB c K = some out) : ∃ d m oa b, c = rvC d m b oa ∧ K d m oa b = some out := by
  cases c with
  | seq a b =>
    cases a with
    | rv d m => exact ⟨d, m, none, b, rfl, h⟩
    | seq x y =>
      obtain ⟨d, m, rfl, h⟩ := rvH_some (show rvH x (fun d m => K d m (some y) b) = some out from h)
      exact ⟨d, m, some y, b, rfl, h⟩
    | _ => cases h
  | _ => cases h
/-- what comes after the recovering region of a body -/
def AftS (P : Program) (CV : T (Option Site)) (σ : Sg) (N : Nat) (W : (Exit → Act → List Frame → World → Prop) → Act → List Frame → World → Prop) (fr : T V) (h : AH) (e : E) (fr' : T V) (h' : AH) : Prop :=
  ∀ (η : Eta) (a : Act) (w : World) (cs : List Frame) (Q : Exit → Act → List Frame → World → Prop), a.defers = [] → HRel P CV σ η h w → FrR σ η fr a.tmps → a.tmps.size = N →
    (∀ x a' w' η', ExR σ η' e x → HRel P CV σ η' h' w' → FrE σ η' e fr' a'.tmps → a'.tmps.size = N → a'.defers = [] → Stp η h w η' h' w' → Q x a' cs w') → W Q a cs w
theorem AftS.code {N : Nat} {c : Code} {fr : T V} {h : AH} {e : E} {fr' : T V} {h' : AH} (hc : CodeDoes P CV σ N c fr h e fr' h') (hn : norf c = true) : AftS P CV σ N (c.wpSIn Fence.wide 0 P) fr h e fr' h' := by
  intro η a w cs Q hd hh hf hs hq
  refine wpSIn_of_wpIn rfl ?_
  refine wpIn_mono (hc η a w Fence.wide ⟨w.heap.size, [], true⟩ (.inl rfl) hh hf hs ⟨[], hd, List.nodup_nil, fun r hr => (by cases hr), fun _ => rfl⟩ (Nat.le_refl _) (fun _ => hn)) fun x a' w' hx => ?_
  obtain ⟨η', q0, q1, q2, q3, ⟨rs', d1, _, _, d4⟩, q5⟩ := hx
  have d4 := d4 rfl
  subst d4
  exact hq x a' w' η' q0 q1 q2 q3 d1 q5
theorem drop_all : ∀ {l : List PanicEntry}, (∀ x ∈ l, x.goexit = false) → l.dropWhile (fun x => !x.goexit) = []
  | [], _ => rfl
  | z :: l, h => by
    rw [List.dropWhile_cons, if_pos (by rw [h z (by simp)]; rfl)]
    exact drop_all fun x hx => h x (by simp [hx])
/-- what recover yields, and the mode behind it -/
def RcvR (σ : Sg) (η : Eta) (a : A) (u u' : FrameMode) : Prop :=
  (u = .returning ∧ u' = .returning ∧ a = .q0) ∨ (∃ v older, u = .panicking ({ v := v, recovered := false, goexit := false } :: older) ∧ u' = .panicking ({ v := v, recovered := true } :: older) ∧ (∀ x ∈ older, x.goexit = false) ∧ Da σ η a v)
theorem ops_rcv {ops : Array Oper} {o : Oper} {Q : Exit → Act → List Frame → World → Prop} {a : Act} {cs : List Frame} {w : World} (ho : ops[0]? = some o) (hw : Region.wanted o (yielded ops a.tmps) = true) (hex : (execOp a.eval o).run P w = .ok .recover w)
    (h : match recoverD cs with | some (v, cs') => Q .normal (a.put o.dst v) cs' w | none => Q .normal (a.put o.dst .nilIface) cs w) : wpOpsSIn Fence.wide 0 P ops Q [0] a cs w := by
  simp only [wpOpsSIn, ho, hw, if_true, hex]
  exact ⟨fun _ _ => trivial, h⟩
def mvA (m : Option Pp) (a : Act) (v : Value) : Act := match m with | none => a | some q => a.put (some q.toNat) v
/-- the body of a function that recovers first -/
theorem rv_body {N : Nat} {c : Code} {d : Pp} {m : Option Pp} {oa : Option RC} {b : RC} (hrn : RnOk P Θ CV CR σ Γ rn) (hc : CR N c (rvC d m b oa)) (hn : norf c = true) {fr : T V} {h : AH} {k : E → T V → AH → R} {out : Out} (hk : rvT rn oa b fr h k = some out) :
    ∃ e fr' h' W, k e fr' h' = some out ∧ AftS P CV σ N W fr h e fr' h' ∧ (d.toNat < N ∧ ∀ q, m = some q → q.toNat < N) ∧ ∀ (Q : Exit → Act → List Frame → World → Prop) (a : Act) (cs : List Frame) (w : World), a.tmps.size = N →
      (match recoverD cs with | some (v, cs') => W Q (mvA m (a.put (some d.toNat) v) v) cs' w | none => W Q (mvA m (a.put (some d.toNat) .nilIface) .nilIface) cs w) → c.wpSIn Fence.wide 0 P Q a cs w := by
  have reg : ∀ {r : Code}, CR N r (.rv d m) → (d.toNat < N ∧ ∀ q, m = some q → q.toNat < N) ∧ ∀ (Q : Exit → Act → List Frame → World → Prop) (a : Act) (cs : List Frame) (w : World), a.tmps.size = N →
      (match recoverD cs with | some (v, cs') => Q .normal (mvA m (a.put (some d.toNat) v) v) cs' w | none => Q .normal (mvA m (a.put (some d.toNat) .nilIface) .nilIface) cs w) → r.wpSIn Fence.wide 0 P Q a cs w := by
    intro r c1
    obtain ⟨id, ops, rfl, hops⟩ := hrn.rvI _ _ _ _ c1
    have one : ∀ o, IsRv N o d → d.toNat < N ∧ o.guard = none ∧ o.dst = some d.toNat ∧ ∀ (ρ : Operand → Value) (w : World), (execOp ρ o).run P w = .ok .recover w := by
      rintro o ⟨call, o1, o2, o3, o4, o5, o6⟩
      refine ⟨o6, o4, o5, fun ρ w => ?_⟩
      obtain ⟨od, oop, oty, opos, oaf, ogd⟩ := o
      simp only at o1 o4 o5
      subst o1; subst o4; subst o5
      obtain ⟨cc1, cc2, cc3⟩ := call
      simp only at o2 o3
      subst o2; subst o3
      simp [execOp, resolve, invoke, builtin]
    cases m with
    | none =>
      obtain ⟨o, rfl, ho⟩ := hops
      obtain ⟨o6, o4, o5, hex⟩ := one o ho
      refine ⟨⟨o6, fun q hq => by cases hq⟩, fun Q a cs w _ hq => wpSIn_region ?_⟩
      rw [show List.range (#[o] : Array Oper).size = [0] from rfl]
      refine ops_rcv (o := o) rfl (by simp [Region.wanted, o4]) (hex _ w) ?_
      simp only [o5]
      exact hq
    | some m =>
      obtain ⟨o, o', rfl, ho, hm1, hm2, hm3, hm4⟩ := hops
      obtain ⟨o6, o4, o5, hex⟩ := one o ho
      refine ⟨⟨o6, fun q hq => by cases hq; exact hm4⟩, fun Q a cs w hN hq => wpSIn_region ?_⟩
      rw [show List.range (#[o, o'] : Array Oper).size = [0, 1] from rfl]
      have w0 : Region.wanted o (yielded #[o, o'] a.tmps) = true := by simp [Region.wanted, o4]
      have hd : d.toNat < a.tmps.size := by rw [hN]; exact o6
      have mv : ∀ (v : Value) (cs : List Frame), Q .normal (mvA (some m) (a.put (some d.toNat) v) v) cs w → wpOpsSIn Fence.wide 0 P #[o, o'] Q [1] (a.put (some d.toNat) v) cs w := by
        intro v cs hq
        have w1 : Region.wanted o' (yielded #[o, o'] (a.put (some d.toNat) v).tmps) = true := by simp [Region.wanted, hm2]
        have he : (a.put (some d.toNat) v).eval (.tmp d.toNat) = v := by simp [Act.eval, Act.put, hd]
        have hx : (execOp (a.put (some d.toNat) v).eval o').run P w = .ok (.value v) w := by
          obtain ⟨od, oop, oty, opos, oaf, ogd⟩ := o'
          simp only at hm1
          rcases hm1 with rfl | rfl <;> simp [execOp, he]
        have g1 : (#[o, o'] : Array Oper)[1]? = some o' := rfl
        simp only [wpOpsSIn, g1, w1, if_true, hx, hm3]
        exact ⟨fun _ _ => trivial, hq⟩
      have g0 : (#[o, o'] : Array Oper)[0]? = some o := rfl
      rw [wpOpsSIn]
      simp only [g0, w0, if_true, hex, o5]
      refine ⟨fun _ _ => trivial, ?_⟩
      cases hr : recoverD cs with
      | none => rw [hr] at hq; exact mv _ _ hq
      | some p => obtain ⟨v, cs'⟩ := p; rw [hr] at hq; exact mv _ _ hq
  cases oa with
  | none =>
    obtain ⟨x, y, rfl, c1, c2⟩ := hrn.seqI _ _ _ _ (show CR N c (.seq (.rv d m) b) from hc)
    obtain ⟨r1, r2⟩ := reg c1
    obtain ⟨e, fr', h', g5, g6⟩ := hrn.run _ _ _ _ _ (show rn b fr h k = some out from hk) _ _ c2
    have hny : norf y = true := by simp only [norf, Bool.and_eq_true] at hn; exact hn.2
    refine ⟨e, fr', h', _, g5, AftS.code g6 hny, r1, fun Q a cs w hN hq => wpSIn_seq (r2 _ a cs w hN ?_)⟩
    exact hq
  | some a0 =>
    obtain ⟨x, yb, rfl, c1, c2⟩ := hrn.seqI _ _ _ _ (show CR N c (.seq (.seq (.rv d m) a0) b) from hc)
    obtain ⟨x, ya, rfl, c1, c3⟩ := hrn.seqI _ _ _ _ c1
    obtain ⟨r1, r2⟩ := reg c1
    simp only [norf, Bool.and_eq_true] at hn
    obtain ⟨e, fr', h', g5, g6⟩ := hrn.run _ _ _ _ _ (show rn a0 fr h (fun e f h' => isN e (rn b f h' k) (k e f h')) = some out from hk) _ _ c3
    have done : (e ≠ .nrm) → k e fr' h' = some out → ∃ e fr' h' W, k e fr' h' = some out ∧ AftS P CV σ N W fr h e fr' h' ∧ (d.toNat < N ∧ ∀ q, m = some q → q.toNat < N) ∧ ∀ (Q : Exit → Act → List Frame → World → Prop) (a : Act) (cs : List Frame) (w : World), a.tmps.size = N →
      (match recoverD cs with | some (v, cs') => W Q (mvA m (a.put (some d.toNat) v) v) cs' w | none => W Q (mvA m (a.put (some d.toNat) .nilIface) .nilIface) cs w) → ((x.seq ya).seq yb).wpSIn Fence.wide 0 P Q a cs w := by
      intro hne g7
      refine ⟨e, fr', h', fun Q => ya.wpSIn Fence.wide 0 P (Exit.thenS (yb.wpSIn Fence.wide 0 P Q) Q), g7, ?_, r1, fun Q a cs w hN hq => wpSIn_seq (wpSIn_seq (r2 _ a cs w hN ?_))⟩
      · intro η a w cs Q hd hh hf hs hq
        refine AftS.code g6 hn.1.2 η a w cs _ hd hh hf hs fun x a' w' η' q0 q1 q2 q3 q4 q5 => ?_
        have := hq x a' w' η' q0 q1 q2 q3 q4 q5
        cases e with
        | nrm => exact absurd rfl hne
        | ex i => have q0 : x = .exit i := q0; subst q0; exact this
        | rt => have q0 : x = .ret := q0; subst q0; exact this
        | pn a => obtain ⟨ch, rfl, _⟩ := q0; exact this
      · exact hq
    cases e with
    | ex i => exact done (fun h => by cases h) g5
    | rt => exact done (fun h => by cases h) g5
    | pn a => exact done (fun h => by cases h) g5
    | nrm =>
      obtain ⟨e2, fr2, h2, g7, g8⟩ := hrn.run _ _ _ _ _ (show rn b fr' h' k = some out from g5) _ _ c2
      refine ⟨e2, fr2, h2, fun Q => ya.wpSIn Fence.wide 0 P (Exit.thenS (yb.wpSIn Fence.wide 0 P Q) Q), g7, ?_, r1, fun Q a cs w hN hq => wpSIn_seq (wpSIn_seq (r2 _ a cs w hN ?_))⟩
      · intro η a w cs Q hd hh hf hs hq
        refine AftS.code g6 hn.1.2 η a w cs _ hd hh hf hs fun x a' w' η' q0 q1 q2 q3 q4 q5 => ?_
        have q0 : x = .normal := q0
        subst q0
        exact AftS.code g8 hn.2 η' a' w' cs Q q4 q1 q2 q3 fun x a'' w'' η'' p0 p1 p2 p3 p4 p5 => hq x a'' w'' η'' p0 p1 p2 p3 p4 (Stp.trans hh.dom q5 p5)
      · exact hq
include hΘ hfn hrn in
theorem defR_some {f : Nat} {cp : List (Pp × Nat)} {a : A} {fr : T V} {h : AH} {rs : List RR} {K : V → AH → R} {KP : A → AH → R} {out : Out} (hk : defR Γ rn f cp a fr h rs K KP = some out) :
    ∃ r h', fin K KP r h' = some out ∧ ∀ (fn : Func) (η0 : Eta) (h0 : AH) (w0 : World) (η : Eta) (w : World) (tmps : Array Value) (vs : List Value) (u u' : FrameMode), cvRs Θ fn.results.toList = some rs → (∀ r : Pp, h0.nx.toNat ≤ r.toNat → η0 r = none) → RcvR σ η a u u' → FrP σ η fr tmps → HRel P CV σ η h w → Stp η0 h0 w0 η h w → Dcaps η cp vs →
      LeavesInM Fence.wide 0 P fn tmps (REnd P CV σ η0 h0 w0 r h') [{ target := .fn (.func f) vs.toArray, args := #[] }] u w := by
  obtain ⟨fp, hfp, g1⟩ := toPK_some _ _ _ _ hk
  cases hf : Γ.fns.get none fp with
  | none => rw [hf] at g1; cases g1
  | some rf =>
    rw [hf] at g1
    rcases hfn.get none fp with h0 | h0
    · rw [h0] at hf; cases hf
    · rw [hf] at h0
      obtain ⟨gn, c, f1, f2, f3, f4, f5, f6, f7, f8⟩ := h0
      obtain ⟨hnr, g1⟩ := bif_some g1
      have f8 := f8 hnr
      obtain ⟨l1, gr, g2, g3⟩ := argsB_some (k := 0) g1 (fun i p hp => by rw [Nat.zero_add]; exact f4 i p hp)
      obtain ⟨d, m, oa, b, hbody, g4⟩ := rvB_some g2
      rw [hbody] at f6
      rw [T.setK_eq, put_eq] at g4
      obtain ⟨e, gr2, h', W, g5, g6, ⟨o6, o7⟩, g7⟩ := rv_body (fr := setO (T.set .x (.a a) d gr) m (.a a)) hrn f6 f8 g4
      -- the end
      have fine : ∃ r, fin K KP r h' = some out ∧ ∀ (fn : Func) (η0 : Eta) (h0 : AH) (w0 : World) (η' : Eta) (w' : World) (tmps tmps' : Array Value) (x : Exit) (u' : FrameMode), cvRs Θ fn.results.toList = some rs → ExR σ η' e x → FrP σ η' fr tmps → FrE σ η' e gr2 tmps' → HRel P CV σ η' h' w' → Stp η0 h0 w0 η' h' w' →
          (u' = .returning ∨ ∃ v older, u' = .panicking ({ v := v, recovered := true } :: older) ∧ ∀ x ∈ older, x.goexit = false) →
          ((x = .normal ∨ x = .ret) ∧ (∃ v, (results gn tmps').run P w' = .ok v w') ∧ LeavesInM Fence.wide 0 P fn tmps (REnd P CV σ η0 h0 w0 r h') [] (settle u') w') ∨ (∃ ch, x = .panic ch ∧ LeavesInM Fence.wide 0 P fn tmps (REnd P CV σ η0 h0 w0 r h') [] (raised u' ch) w') := by
        have ret : resK gr2 h' rf.res (fun _ => resK fr h' rs (fun v => K v h')) = some out → (e = .nrm ∨ e = .rt) → ∃ r, fin K KP r h' = some out ∧ ∀ (fn : Func) (η0 : Eta) (h0 : AH) (w0 : World) (η' : Eta) (w' : World) (tmps tmps' : Array Value) (x : Exit) (u' : FrameMode), cvRs Θ fn.results.toList = some rs → ExR σ η' e x → FrP σ η' fr tmps → FrE σ η' e gr2 tmps' → HRel P CV σ η' h' w' → Stp η0 h0 w0 η' h' w' →           (u' = .returning ∨ ∃ v older, u' = .panicking ({ v := v, recovered := true } :: older) ∧ ∀ x ∈ older, x.goexit = false) →           ((x = .normal ∨ x = .ret) ∧ (∃ v, (results gn tmps').run P w' = .ok v w') ∧ LeavesInM Fence.wide 0 P fn tmps (REnd P CV σ η0 h0 w0 r h') [] (settle u') w') ∨ (∃ ch, x = .panic ch ∧ LeavesInM Fence.wide 0 P fn tmps (REnd P CV σ η0 h0 w0 r h') [] (raised u' ch) w') := fun q1 he => by
          obtain ⟨v1, q2, q3⟩ := resK_some (P := P) (CV := CV) (σ := σ) hΘ q1
          obtain ⟨v2, q4, q5⟩ := resK_some (P := P) (CV := CV) (σ := σ) hΘ q2
          refine ⟨.inl v2, q4, fun fn η0 h0 w0 η' w' tmps tmps' x u' hc hx hfp' hfe hh hs hu => .inl ⟨?_, ?_, ?_⟩⟩
          · rcases he with rfl | rfl
            · exact .inl hx
            · exact .inr hx
          · obtain ⟨v', e1, _⟩ := q3 η' tmps' w' gn f7 hfe.p hh
            exact ⟨v', e1⟩
          · have hset : settle u' = .returning := by
              rcases hu with rfl | ⟨v, older, rfl, ho⟩
              · rfl
              · have : older.dropWhile (fun x => !x.goexit) = [] := drop_all ho
                simp [settle, this]
            rw [hset]
            obtain ⟨v', e1, e2⟩ := q5 η' tmps w' fn hc hfp' hh
            exact ⟨v', e1, η', ⟨v', rfl, e2⟩, hh, hs⟩
        cases e with
        | nrm => exact ret g5 (.inl rfl)
        | rt => exact ret g5 (.inr rfl)
        | ex i => cases g5
        | pn a' =>
          refine ⟨.inr a', g5, fun fn η0 h0 w0 η' w' tmps tmps' x u' hc hx hfp' hfe hh hs hu => .inr ?_⟩
          obtain ⟨ch, rfl, v', older', rfl, hol, hd'⟩ := hx
          refine ⟨_, rfl, ?_⟩
          rcases hu with rfl | ⟨v, older, rfl, ho⟩
          · exact ⟨η', ⟨_, rfl, v', older', rfl, hol, hd'⟩, hh, hs⟩
          · refine ⟨η', ⟨_, rfl, v', older' ++ { v := v, recovered := true } :: older, rfl, fun x hx => ?_, hd'⟩, hh, hs⟩
            rcases List.mem_append.1 hx with hx | hx
            · exact hol x hx
            · rcases List.mem_cons.1 hx with rfl | hx
              · rfl
              · exact ho x hx
      obtain ⟨r, k1, k2⟩ := fine
      refine ⟨r, h', k1, fun fn η0 h0 w0 η w tmps vs u u' hc hdom hrc hfp' hh hs hcap => ?_⟩
      rw [hfp] at f1 f2
      have hur : u ≠ .run := by rcases hrc with ⟨rfl, _⟩ | ⟨v, older, rfl, _⟩ <;> exact fun e => by cases e
      refine ⟨hur, .inr ⟨fun hd => (by cases hd), _, _, f, vs.toArray, rfl, ?_, fun _ _ => trivial, ?_⟩⟩
      · simp [invoke, run_callFunc f2]
      · refine callsDIn_of_wpSIn f1 f3 trivial fun c₀ cs hm => ?_
        obtain ⟨hsz, hfr⟩ := enter_fr (N := gn.ntmps) (capV_ok hcap) l1 f5 g3
        refine g7 _ _ _ _ hsz ?_
        have hun : ∀ u', u' = .returning ∨ (∃ v older, u' = .panicking ({ v := v, recovered := true } :: older) ∧ ∀ x ∈ older, x.goexit = false) → ∀ (v0 : Value), Da σ η a v0 → ∀ cs', cs' = { c₀ with mode := u' } :: cs →
            W (bodyPostS P gn c₀ cs fun | .returned _, u', w' => LeavesInM Fence.wide 0 P fn tmps (REnd P CV σ η0 h0 w0 r h') [] (settle u') w' | .panicked ch, u', w' => LeavesInM Fence.wide 0 P fn tmps (REnd P CV σ η0 h0 w0 r h') [] (raised u' ch) w' | .outgrown, _, w' => REnd P CV σ η0 h0 w0 r h' .outgrown w')
              (mvA m (Act.put { tmps := vs.toArray ++ Array.replicate (gn.ntmps - vs.toArray.size) undef, defers := [] } (some d.toNat) v0) v0) cs' w := by
          intro u' hu v0 hv0 cs' hcs
          subst hcs
          have hput := FrR.put (a := { tmps := vs.toArray ++ Array.replicate (gn.ntmps - vs.toArray.size) undef, defers := [] }) hfr (d := d.toNat) (q := d) rfl (by rw [hsz]; exact o6) (v := .a a) hv0
          have hs1 : (Act.put { tmps := vs.toArray ++ Array.replicate (gn.ntmps - vs.toArray.size) undef, defers := [] } (some d.toNat) v0).tmps.size = gn.ntmps := by simp only [Act.put, Array.size_setIfInBounds]; exact hsz
          have hm2 : FrR σ η (setO (T.set .x (.a a) d gr) m (.a a)) (mvA m (Act.put { tmps := vs.toArray ++ Array.replicate (gn.ntmps - vs.toArray.size) undef, defers := [] } (some d.toNat) v0) v0).tmps ∧
              (mvA m (Act.put { tmps := vs.toArray ++ Array.replicate (gn.ntmps - vs.toArray.size) undef, defers := [] } (some d.toNat) v0) v0).tmps.size = gn.ntmps ∧ (mvA m (Act.put { tmps := vs.toArray ++ Array.replicate (gn.ntmps - vs.toArray.size) undef, defers := [] } (some d.toNat) v0) v0).defers = [] := by
            cases m with
            | none => exact ⟨hput, hs1, rfl⟩
            | some q => exact ⟨FrR.put hput rfl (by rw [hs1]; exact o7 q rfl) (v := .a a) hv0, by show (Array.setIfInBounds _ _ _).size = _; rw [Array.size_setIfInBounds]; exact hs1, rfl⟩
          refine g6 η _ w _ _ hm2.2.2 hh hm2.1 hm2.2.1 fun x a' w' η' q0 q1 q2 q3 d1 q5 => ?_
          rcases k2 fn η0 h0 w0 η' w' tmps a'.tmps x u' hc q0 (fun p hp => (hfp' p hp).mono q5.le) q2 q1 (Stp.trans hdom hs q5) hu with ⟨hx, ⟨v, hv⟩, hl⟩ | ⟨ch, rfl, hl⟩
          · rcases hx with rfl | rfl
            · exact ⟨d1, u', rfl, v, hv, hl⟩
            · exact ⟨d1, u', rfl, v, hv, hl⟩
          · exact ⟨d1, u', rfl, hl⟩
        rcases hrc with ⟨rfl, rfl, rfl⟩ | ⟨v, older, rfl, rfl, ho, hv⟩
        · have : recoverD (c₀ :: cs) = none := by simp [recoverD, hm]
          rw [this]
          exact hun .returning (.inl rfl) .nilIface rfl _ (by rw [← hm])
        · have : recoverD (c₀ :: cs) = some (v, { c₀ with mode := .panicking ({ v := v, recovered := true } :: older) } :: cs) := by simp [recoverD, hm]
          rw [this]
          exact hun _ (.inr ⟨v, older, rfl, ho⟩) v hv _ rfl
include hΘ hfn hrn in
theorem defK_some {f : Nat} {cp : List (Pp × Nat)} {e : E} {fr : T V} {h : AH} {rs : List RR} {K : V → AH → R} {KP : A → AH → R} {out : Out} (hk : defK Γ rn f cp e fr h rs K KP = some out) :
    ∃ r h', fin K KP r h' = some out ∧ ∀ (fn : Func) (η0 : Eta) (h0 : AH) (w0 : World) (η : Eta) (w : World) (tmps : Array Value) (vs : List Value) (x : Exit), cvRs Θ fn.results.toList = some rs → (∀ r : Pp, h0.nx.toNat ≤ r.toNat → η0 r = none) → ExR σ η e x → FrP σ η fr tmps → HRel P CV σ η h w → Stp η0 h0 w0 η h w → Dcaps η cp vs →
      ∃ u, modeOf x = some u ∧ LeavesInM Fence.wide 0 P fn tmps (REnd P CV σ η0 h0 w0 r h') [{ target := .fn (.func f) vs.toArray, args := #[] }] u w := by
  cases e with
  | ex i => cases hk
  | nrm =>
    obtain ⟨r, h', k1, k2⟩ := defR_some hΘ hfn hrn (show defR Γ rn f cp .q0 fr h rs K KP = some out from hk)
    exact ⟨r, h', k1, fun fn η0 h0 w0 η w tmps vs x hc hdom hx hf hh hs hcap => ⟨.returning, by have hx : x = .normal := hx; rw [hx]; rfl, k2 fn η0 h0 w0 η w tmps vs .returning .returning hc hdom (.inl ⟨rfl, rfl, rfl⟩) hf hh hs hcap⟩⟩
  | rt =>
    obtain ⟨r, h', k1, k2⟩ := defR_some hΘ hfn hrn (show defR Γ rn f cp .q0 fr h rs K KP = some out from hk)
    exact ⟨r, h', k1, fun fn η0 h0 w0 η w tmps vs x hc hdom hx hf hh hs hcap => ⟨.returning, by have hx : x = .ret := hx; rw [hx]; rfl, k2 fn η0 h0 w0 η w tmps vs .returning .returning hc hdom (.inl ⟨rfl, rfl, rfl⟩) hf hh hs hcap⟩⟩
  | pn a =>
    obtain ⟨r, h', k1, k2⟩ := defR_some hΘ hfn hrn (show defR Γ rn f cp a fr h rs K KP = some out from hk)
    refine ⟨r, h', k1, fun fn η0 h0 w0 η w tmps vs x hc hdom hx hf hh hs hcap => ?_⟩
    obtain ⟨ch, rfl, v, older, rfl, ho, hv⟩ := hx
    exact ⟨_, rfl, k2 fn η0 h0 w0 η w tmps vs _ _ hc hdom (.inr ⟨v, older, rfl, rfl, ho, hv⟩) hf hh hs hcap⟩
include hΘ hΓ hfn hrn in
theorem bodyD_some {rs : List RR} {KP : A → AH → R} {K : V → AH → R} {out : Out} : ∀ (c : RC) {fr : T V} {h : AH}, bodyD c Γ rn rs fr h K KP = some out → ∀ N c', CR N c' c → norf c' = true →
    ∃ r h', fin K KP r h' = some out ∧ ∀ (fn : Func) (η0 : Eta) (h0 : AH) (w0 : World) (η : Eta) (a : Act) (w : World), cvRs Θ fn.results.toList = some rs → (∀ r : Pp, h0.nx.toNat ≤ r.toNat → η0 r = none) → Stp η0 h0 w0 η h w → HRel P CV σ η h w → FrR σ η fr a.tmps → a.tmps.size = N → a.defers = [] →
      c'.wpIn Fence.wide 0 P (bodyPostM Fence.wide 0 P fn (REnd P CV σ η0 h0 w0 r h')) a w := by
  intro c
  induction c with
  | seq a b iha ihb =>
    intro fr h hk N c' hc hn
    have hk : rn a fr h (fun e fr' h' => isN e (bodyD b Γ rn rs fr' h' K KP) (endK rs e fr' h' K KP)) = some out := hk
    obtain ⟨x, y, rfl, c1, c2⟩ := hrn.seqI _ _ _ _ hc
    have hn2 : norf x = true ∧ norf y = true := by simpa [norf] using hn
    obtain ⟨e1, f1, h1, g1, g2⟩ := hrn.run _ _ _ _ _ hk _ _ c1
    have first : ∀ (η : Eta) (ac : Act) (w : World), HRel P CV σ η h w → FrR σ η fr ac.tmps → ac.tmps.size = N → ac.defers = [] → x.wpIn Fence.wide 0 P (fun xx a' w' => ∃ η', ExR σ η' e1 xx ∧ HRel P CV σ η' h1 w' ∧ FrE σ η' e1 f1 a'.tmps ∧ a'.tmps.size = N ∧ a'.defers = [] ∧ Stp η h w η' h1 w') ac w := by
      intro η ac w hh hf hN hd
      refine wpIn_mono (g2 η ac w Fence.wide ⟨w.heap.size, [], true⟩ (.inl rfl) hh hf hN ⟨[], by rw [hd]; rfl, List.nodup_nil, fun r hr => (by cases hr), fun _ => rfl⟩ (Nat.le_refl _) (fun _ => hn2.1)) fun xx a' w' q => ?_
      obtain ⟨η', q0, q1, q2, q3, ⟨rs', d1, _, _, d4⟩, q5⟩ := q
      have d4 := d4 rfl
      subst d4
      exact ⟨η', q0, q1, q2, q3, d1, q5⟩
    rcases isN_some g1 with ⟨rfl, g3⟩ | ⟨hne, g3⟩
    · obtain ⟨r, h', k1, k2⟩ := ihb g3 N y c2 hn2.2
      refine ⟨r, h', k1, fun fn η0 h0 w0 η ac w hcr hdom hs hh hf hN hd => wpIn_seq (wpIn_mono (first η ac w hh hf hN hd) fun xx a' w' q => ?_)⟩
      obtain ⟨η', q0, q1, q2, q3, q4, q5⟩ := q
      have q0 : xx = .normal := q0
      subst q0
      exact k2 fn η0 h0 w0 η' a' w' hcr hdom (Stp.trans hdom hs q5) q1 q2 q3 q4
    · obtain ⟨r, k1, k2⟩ := endK_some (P := P) (CV := CV) (σ := σ) hΘ g3
      refine ⟨r, h1, k1, fun fn η0 h0 w0 η ac w hcr hdom hs hh hf hN hd => wpIn_seq (wpIn_mono (first η ac w hh hf hN hd) fun xx a' w' q => ?_)⟩
      obtain ⟨η', q0, q1, q2, q3, q4, q5⟩ := q
      obtain ⟨u, m1, m2⟩ := k2 fn η0 h0 w0 η' w' a'.tmps xx hcr q0 q2 q1 (Stp.trans hdom hs q5)
      refine then_ne (q0.ne hne) (body_of m1 ?_)
      rw [q4]
      exact m2 w' q1 (Stp.trans hdom hs q5)
  | df l x b ihb =>
    intro fr h hk N c' hc hn
    have hk : prK l Γ fr (fun fr1 => (rdX fr1 x).aK (fun c => c.fK (fun f cp => rn b fr1 h (fun e fr2 h2 => defK Γ rn f cp e fr2 h2 rs K KP)) (fun _ => none))) = some out := hk
    obtain ⟨id, ops, os, od, y, rfl, hops, hcv, ⟨call, xo, o1, o2, o3, o4, o5, o6⟩, c2⟩ := hrn.dfI _ _ _ _ _ hc
    have hn2 : norf y = true := by simpa [norf] using hn
    obtain ⟨fr1, g1, g2⟩ := prK_some (P := P) (σ := σ) (post := [od]) (pre := []) (rest := os) hΘ hΓ (by rw [hops]; simp) hcv hk
    obtain ⟨q, hq, g3⟩ := aK_some g1
    rcases fK_some g3 with ⟨f, cp, rfl, g4⟩ | ⟨r, _, g4⟩
    · obtain ⟨e, f2, h2, g5, g6⟩ := hrn.run _ _ _ _ _ g4 _ _ c2
      obtain ⟨r, h', k1, k2⟩ := defK_some hΘ hfn hrn g5
      refine ⟨r, h', k1, fun fn η0 h0 w0 η ac w hcr hdom hs hh hf hN hd => wpIn_seq (wpIn_region ?_)⟩
      have hsz : ops.size = os.length + 1 := by
        have : ops.toList.length = os.length + 1 := by rw [hops]; simp
        simpa using this
      rw [hsz, List.range_succ, List.range_eq_range']
      refine g2 _ _ η ac w hf hN fun a1 r1 r2 r3 => ?_
      have ho : ops[os.length]? = some od := by
        have : ops.toList[os.length]? = some od := by rw [hops]; simp
        simpa using this
      simp only [wpOpsIn, ho]
      rw [if_pos (by unfold Region.wanted; rw [o5])]
      obtain ⟨oD, oO, oT, oP, oA, oG⟩ := od
      simp only at o1 o5 o6
      subst o1; subst o5; subst o6
      obtain ⟨k1', k2', k3'⟩ := call
      simp only at o2 o4
      subst o2; subst o4
      have dx := (r1.xr [xo]).get (by simp) o3
      rw [hq] at dx
      obtain ⟨vs, d1, d2⟩ := dx
      have d2 : ev (frOf a1) xo = .func (.func f) #[] vs.toArray := d2
      refine ⟨fun _ _ => trivial, ?_⟩
      have hex : (Oper.semAt Fence.wide.round a1.eval ({ dst := none, op := .defer { callee := .value xo, args := #[], argTypes := k3' }, type := oT, pos := oP, after := oA, guard := none } : Oper)).run P w = .ok (.defer { target := .fn (.func f) vs.toArray, args := #[] }) w := by
        rw [show Fence.wide.round = none from rfl, Oper.semAt_none, eval_eq]
        simp [execOp, resolve, d2, Deferred.ofValue]
      rw [hex]
      show Code.wpIn Fence.wide 0 P y _ _ w
      have hd1 : a1.defers = [] := r3.trans hd
      refine wpIn_mono (g6 η _ w Fence.wide ⟨w.heap.size, [{ target := .fn (.func f) vs.toArray, args := #[] }], true⟩ (.inl rfl) hh r1 r2 ⟨[], by show _ :: a1.defers = _; rw [hd1]; rfl, List.nodup_nil, fun r hr => (by cases hr), fun _ => rfl⟩ (Nat.le_refl _) (fun _ => hn2)) fun xx a' w' q => ?_
      obtain ⟨η', q0, q1, q2, q3, ⟨rs', e1, _, _, e4⟩, q5⟩ := q
      have e4 := e4 rfl
      subst e4
      have e1 : a'.defers = [{ target := .fn (.func f) vs.toArray, args := #[] }] := e1
      obtain ⟨u, m1, m2⟩ := k2 fn η0 h0 w0 η' w' a'.tmps vs xx hcr hdom q0 q2.p q1 (Stp.trans hdom hs q5) (d1.mono q5.le)
      refine body_of m1 ?_
      rw [e1]
      exact m2
    · cases g4
  | _ => intro fr h hk; cases hk
theorem eqbC_eq : ∀ {a b : List (Pp × Nat)}, eqbC a b = true → a = b
  | [], [], _ => rfl
  | [], _ :: _, h => by cases h
  | _ :: _, [], h => by cases h
  | (x, i) :: a, (y, j) :: b, h => by
    obtain ⟨h1, h2⟩ := and_t (show and (and (x.eqb y) (Nat.beq i j)) (eqbC a b) = true from h)
    obtain ⟨h3, h4⟩ := and_t h1
    rw [ppEqb h3, Nat.eq_of_beq_eq_true h4, eqbC_eq h2]
theorem eqbA_eq {a b : A} (h : eqbA a b = true) : a = b := by
  cases a with
  | i k e =>
    cases b with
    | i k' e' =>
      obtain ⟨h1, h2⟩ := and_t (show and (Nat.beq (ikK k) (ikK k')) (e.eqb e') = true from h)
      rw [ikK_inj h1, SE.eqb_eq h2]
    | _ => cases h
  | b x =>
    cases b with
    | b y => cases x <;> cases y <;> first | rfl | cases h
    | _ => cases h
  | s0 =>
    cases b with
    | s0 => rfl
    | _ => cases h
  | s r o n =>
    cases b with
    | s r' o' n' =>
      obtain ⟨h1, h2⟩ := and_t (show and (r.eqb r') (and (Nat.beq o o') (Nat.beq n n')) = true from h)
      obtain ⟨h3, h4⟩ := and_t h2
      rw [ppEqb h1, Nat.eq_of_beq_eq_true h3, Nat.eq_of_beq_eq_true h4]
    | _ => cases h
  | p0 =>
    cases b with
    | p0 => rfl
    | _ => cases h
  | p r o =>
    cases b with
    | p r' o' =>
      obtain ⟨h1, h2⟩ := and_t (show and (r.eqb r') (Nat.beq o o') = true from h)
      rw [ppEqb h1, Nat.eq_of_beq_eq_true h2]
    | _ => cases h
  | m0 =>
    cases b with
    | m0 => rfl
    | _ => cases h
  | m r =>
    cases b with
    | m r' => rw [ppEqb (show r.eqb r' = true from h)]
    | _ => cases h
  | f k c =>
    cases b with
    | f k' c' =>
      obtain ⟨h1, h2⟩ := and_t (show and (Nat.beq k k') (eqbC c c') = true from h)
      rw [Nat.eq_of_beq_eq_true h1, eqbC_eq h2]
    | _ => cases h
  | t l =>
    cases b with
    | t l' => rw [Nat.eq_of_beq_eq_true (show Nat.beq l l' = true from h)]
    | _ => cases h
  | q0 =>
    cases b with
    | q0 => rfl
    | _ => cases h
  | _ => cases b <;> cases h
theorem eqbL_eq : ∀ {a b : List A}, eqbL a b = true → a = b
  | [], [], _ => rfl
  | [], _ :: _, h => by cases h
  | _ :: _, [], h => by cases h
  | x1 :: a, y :: b, h => by
    obtain ⟨h1, h2⟩ := and_t (show and (eqbA x1 y) (eqbL a b) = true from h)
    rw [eqbA_eq h1, eqbL_eq h2]
theorem eqbU_eq {a b : U} (h : eqbU a b = true) : a = b := by
  cases a with
  | a x => cases b with | a y => rw [eqbA_eq (show eqbA x y = true from h)] | g _ => cases h
  | g x => cases b with | g y => rw [eqbL_eq (show eqbL x y = true from h)] | a _ => cases h
theorem eqbUL_eq : ∀ {a b : List U}, eqbUL a b = true → a = b
  | [], [], _ => rfl
  | [], _ :: _, h => by cases h
  | _ :: _, [], h => by cases h
  | x1 :: a, y :: b, h => by
    obtain ⟨h1, h2⟩ := and_t (show and (eqbU x1 y) (eqbUL a b) = true from h)
    rw [eqbU_eq h1, eqbUL_eq h2]
theorem eqbV_eq {a b : V} (h : eqbV a b = true) : a = b := by
  cases a with
  | a w => cases b with | a y => rw [eqbA_eq (show eqbA w y = true from h)] | _ => cases h
  | g w => cases b with | g y => rw [eqbL_eq (show eqbL w y = true from h)] | _ => cases h
  | t w => cases b with | t y => rw [eqbUL_eq (show eqbUL w y = true from h)] | _ => cases h
  | x => cases b <;> cases h
theorem eqbVL_eq : ∀ {a b : List V}, eqbVL a b = true → a = b
  | [], [], _ => rfl
  | [], _ :: _, h => by cases h
  | _ :: _, [], h => by cases h
  | x1 :: a, y :: b, h => by
    obtain ⟨h1, h2⟩ := and_t (show and (eqbV x1 y) (eqbVL a b) = true from h)
    rw [eqbV_eq h1, eqbVL_eq h2]
theorem PCall.does {fp : Pp} {vs : List V} {v : V} (hp : PCall P σ (fp, vs, v)) (h : AH) : CallDoes P CV σ fp.toNat vs h (.inl v) h := by
  intro η args w hd hh
  refine (hp.2 η args w hd).mono fun x w' hx => ?_
  obtain ⟨v', rfl, hv, b⟩ := hx
  have keep : ∀ k, k < w.heap.size → w'.heap[k]? = w.heap[k]? := b.block
  refine ⟨η, ⟨v', rfl, hv η⟩, hh.same b.size (fun r k c _ he => keep k (hh.bnd r k c he)), ?_⟩
  exact ⟨Eta.le.refl _, Nat.le_refl _, fun _ _ h => h, b.size, fun k hk _ => keep k hk, fun r k c h1 h2 => (by rw [h1] at h2; cases h2), b.os, b.tape, b.output, fun k L hL => ⟨L, by rw [keep k (Array.getElem?_eq_some_iff.1 hL).1]; exact hL⟩⟩
include hΘ hΓ hfn hrn in
theorem callB_some {fp : Pp} {vs : List V} {h : AH} {K : V → AH → R} {KP : A → AH → R} {out : Out} (hk : callB Γ rn fp vs h K KP = some out) : ∃ r h', fin K KP r h' = some out ∧ CallDoes P CV σ fp.toNat vs h r h' ∧ Callable P fp.toNat := by
  have hk0 : Option.rec (motive := fun _ => R) none (fun f => argsB f.ps vs .e (fun fr => Bool.rec (motive := fun _ => R) (rn f.body fr h (fun e fr' h' => endK f.res e fr' h' K KP)) (Bool.rec (motive := fun _ => R) none (bodyD f.body Γ rn f.res fr h K KP) f.nr) f.df)) (Γ.fns.get none fp) = some out := hk
  cases hf : Γ.fns.get none fp with
  | none => rw [hf] at hk0; cases hk0
  | some rf =>
    rw [hf] at hk0
    rcases hfn.get none fp with h0 | h0
    · rw [h0] at hf; cases hf
    · rw [hf] at h0
      obtain ⟨fn, c, f1, f2, f3, f4, f5, f6, f7, f8⟩ := h0
      obtain ⟨l1, fr, g1, g2⟩ := argsB_some (k := 0) hk0 (fun i p hp => by rw [Nat.zero_add]; exact f4 i p hp)
      cases hdf : rf.df with
      | false =>
        rw [hdf] at g1
        obtain ⟨e, fr', h', g3, g4⟩ := hrn.run _ _ _ _ _ g1 fn.ntmps c f6
        obtain ⟨r, k1, k2⟩ := endK_some (P := P) (CV := CV) (σ := σ) hΘ g3
        refine ⟨r, h', k1, fun η args w hd hh => ?_, f2⟩
        refine callsIn_of_wp_marks (F := Fence.wide) f1 f3 trivial ?_
        obtain ⟨hsz, hfr⟩ := enter_fr (N := fn.ntmps) hd l1 f5 g2
        have hcode := g4 η { tmps := args.toArray ++ Array.replicate (fn.ntmps - args.toArray.size) undef, defers := [] } w Fence.wide ⟨w.heap.size, [], false⟩ (.inl rfl) hh hfr hsz ⟨[], rfl, List.nodup_nil, fun r hr => (by cases hr), fun _ => rfl⟩ (Nat.le_refl _) (fun e => by cases e)
        refine wpIn_mono hcode fun x a' w' hq => ?_
        obtain ⟨η', q0, q1, q2, q3, ⟨rs, d1, d2, d3, _⟩, q5⟩ := hq
        obtain ⟨u, m1, m2⟩ := k2 fn η h w η' w' a'.tmps x f7 q0 q2 q1 q5
        refine body_of m1 ?_
        rw [d1]
        exact leaves (P := P) (CV := CV) (σ := σ) (mode_run m1) m2 rs w' d2 d3 q1 q5
      | true =>
        rw [hdf] at g1
        obtain ⟨hnr, g1⟩ := bif_some g1
        obtain ⟨r, h', k1, k2⟩ := bodyD_some hΘ hfn hΓ hrn rf.body g1 _ _ f6 (f8 hnr)
        refine ⟨r, h', k1, fun η args w hd hh => ?_, f2⟩
        refine callsIn_of_wp_marks (F := Fence.wide) f1 f3 trivial ?_
        obtain ⟨hsz, hfr⟩ := enter_fr (N := fn.ntmps) hd l1 f5 g2
        exact k2 fn η h w η { tmps := args.toArray ++ Array.replicate (fn.ntmps - args.toArray.size) undef, defers := [] } w f7 hh.dom (Stp.refl η h w) hh hfr hsz rfl

include hΘ hΓ hfn hrn in
theorem callK_some {fp : Pp} {vs : List V} {h : AH} {K : V → AH → R} {KP : A → AH → R} {out : Out} (hk : callK Γ rn fp vs h K KP = some out) : ∃ r h', fin K KP r h' = some out ∧ CallDoes P CV σ fp.toNat vs h r h' ∧ Callable P fp.toNat := by
  have hk0 : Option.rec (motive := fun _ => R) (callB Γ rn fp vs h K KP) (fun F => F vs h K (callB Γ rn fp vs h K KP)) (Γ.pc.get none fp) = some out := hk
  cases hf : Γ.pc.get none fp with
  | none => rw [hf] at hk0; exact callB_some hΘ hfn hΓ hrn hk0
  | some F =>
    rw [hf] at hk0
    rcases hrn.pcI.get none fp with h0 | h0
    · rw [h0] at hf; cases hf
    · rw [hf] at h0
      obtain ⟨hc, h1⟩ := h0
      rcases h1 vs h K _ out hk0 with h2 | ⟨v, h', h2, h3⟩
      · exact callB_some hΘ hfn hΓ hrn h2
      · exact ⟨.inl v, h', h2, h3, hc⟩
/-- known calls, whatever the memory -/
theorem knL {fp : Pp} : ∀ {l : List (List V × V)}, Callable P fp.toNat → (∀ e ∈ l, PCall P σ (fp, e.1, e.2)) → KnQ P CV σ fp.toNat (some (pcL l))
  | [], hc, _ => ⟨hc, fun vs h kH kM out hk => .inl hk⟩
  | p :: l, hc, hl => by
    refine ⟨hc, fun vs h kH kM out hk => ?_⟩
    have h0 : Bool.rec (motive := fun _ => R) (pcL l vs h kH kM) (kH p.2 h) (eqbVL p.1 vs) = some out := hk
    cases hb : eqbVL p.1 vs with
    | true =>
      rw [hb] at h0
      have hp := hl p (List.mem_cons_self ..)
      rw [← eqbVL_eq hb]
      exact .inr ⟨p.2, h, h0, hp.does h⟩
    | false =>
      rw [hb] at h0
      exact (knL (l := l) hc (fun e he => hl e (List.mem_cons_of_mem _ he))).2 vs h kH kM out h0

/-! rounds -/
theorem rowL_some {r : Row} {K : Nat → T V → List Pp → Pp → E → R} {out : Out} (h : r.lK K = some out) : ∃ st fr ps id pe, r = .l st fr ps id pe ∧ K st fr ps id pe = some out := by
  cases r with
  | l st fr ps id pe => exact ⟨st, fr, ps, id, pe, rfl, h⟩
  | _ => cases h
theorem isO_some {e : E} {a b : R} {out : Out} (h : isO e a b = some out) : (e = .nrm ∧ a = some out) ∨ (e ≠ .nrm ∧ (∀ p, e ≠ .pn p) ∧ b = some out) := by
  cases e with
  | nrm => exact .inl ⟨rfl, h⟩
  | ex i => exact .inr ⟨fun e => (by cases e), fun p e => (by cases e), h⟩
  | rt => exact .inr ⟨fun e => (by cases e), fun p e => (by cases e), h⟩
  | pn a => cases h
theorem bindK_some : ∀ {ps : List Pp} {vs : List V} {fr : T V} {K : T V → R} {out : Out}, bindK ps vs fr K = some out →
    vs.length = ps.length ∧ ∃ fr', K fr' = some out ∧ ∀ η (tmps : Array Value) (args : List Value), FrR σ η fr tmps → DVL σ η vs args → (∀ p ∈ ps, p.toNat < tmps.size) → FrR σ η fr' (((ps.map Pp.toNat).zip args).foldl (fun tmps (t, a) => tmps.setIfInBounds t a) tmps)
  | [], [], fr, K, out, h => ⟨rfl, fr, h, fun η tmps args hf hd _ => by cases hd; exact hf⟩
  | [], _ :: _, _, _, _, h => by cases h
  | _ :: _, [], _, _, _, h => by cases h
  | p :: ps, v :: vs, fr, K, out, h => by
    have h0 : fr.setK .x v p (fun fr' => bindK ps vs fr' K) = some out := h
    rw [T.setK_eq] at h0
    obtain ⟨h1, fr', h2, h3⟩ := bindK_some (ps := ps) (vs := vs) h0
    refine ⟨by simp [h1], fr', h2, fun η tmps args hf hd hp => ?_⟩
    obtain ⟨x, args', rfl, d1, d2⟩ := hd
    simp only [List.map_cons, List.zip_cons_cons, List.foldl_cons]
    refine h3 η _ args' ?_ d2 (fun q hq => by simpa using hp q (by simp [hq]))
    exact FrR.put (a := { tmps := tmps, defers := [] }) hf rfl (hp p (by simp)) d1
theorem zip_size {ps : List Nat} {args : List Value} : ∀ {tmps : Array Value}, ((ps.zip args).foldl (fun (tmps : Array Value) (t, a) => tmps.setIfInBounds t a) tmps).size = tmps.size := by
  induction ps generalizing args with
  | nil => intro tmps; rfl
  | cons p ps ih =>
    intro tmps
    cases args with
    | nil => rfl
    | cons a args => simp only [List.zip_cons_cons, List.foldl_cons]; rw [ih]; simp
theorem putObj_chg (w : World) (b : Nat) (o : Obj) : Chg b w (w.putObj b o) :=
  ⟨rfl, rfl, rfl, by simp, fun i hi hne => World.putObj_heap_other (by simpa using hne)⟩
def RoundDoes (P : Program) (CV : T (Option Site)) (σ : Sg) (r : Pp) (vs : List V) (h : AH) (v : V) (h' : AH) : Prop :=
  ∀ (η : Eta) (args : List Value) (w : World) (b c : Nat), η r = some (b, c) → DVL σ η vs args → HRel P CV σ η h w →
    ∃ fn tmps assign body, (Instr.yield b args.toArray).run P w = .ok (.round b fn tmps assign body) w ∧ RoundIn Fence.wide 0 P b fn tmps assign body w (Ret fun v' w' => ∃ η', Dv σ η' v v' ∧ HRel P CV σ η' h' w' ∧ Stp η h w η' h' w')
include hrn in
theorem roundK_some {r : Pp} {vs : List V} {h : AH} {K : V → AH → R} {out : Out} (hk : roundK Γ rn r vs h K = some out) : ∃ v h', K v h' = some out ∧ RoundDoes P CV σ r vs h v h' := by
  obtain ⟨st, fr, ps, id, pe, hrow, g1⟩ := rowL_some hk
  obtain ⟨g2, g3⟩ := bif_some g1
  have g2 := Nat.eq_of_beq_eq_true g2
  subst g2
  have hsite : ∃ s : Site, Γ.sites.get none id = some s ∧ bindK ps vs fr (fun fr1 => rn s.a fr1 h (fun e fr2 h2 => isN e
      ((h2.row r).lK (fun st2 fr2' ps2 id2 pe2 => Bool.rec (motive := fun _ => R) none (h2.putK r (.l 1 fr2' ps2 id2 pe2) (fun h3 => rn s.b fr2 h3 (fun e' _ h4 =>
        (h4.row r).lK (fun _ fr4 ps4 id4 _ => isO e' (h4.putK r (.l 0 fr4 ps4 id4 .nrm) (K (.a (.b true)))) (h4.putK r (.l 2 fr4 ps4 id4 e') (K (.a (.b false)))))))) (Nat.beq st2 0))) none)) = some out := by
    cases hs : Γ.sites.get none id with
    | none => rw [hs] at g3; cases g3
    | some s => rw [hs] at g3; exact ⟨s, rfl, g3⟩
  obtain ⟨s, hs, g3⟩ := hsite
  rw [hrn.cv] at hs
  obtain ⟨cr1, cr2⟩ : CR s.N s.ca s.a ∧ CR s.N s.cb s.b := by
    rcases hrn.site.get none id with h0 | h0
    · rw [h0] at hs; cases hs
    · rw [hs] at h0; exact h0
  obtain ⟨l1, fr1, g4, g5⟩ := bindK_some (σ := σ) g3
  obtain ⟨e, fr2, h2, g6, g7⟩ := hrn.run _ _ _ _ _ g4 _ _ cr1
  rcases isN_some g6 with ⟨rfl, g8⟩ | ⟨_, g8⟩
  · obtain ⟨st2, fr2', ps2, id2, pe2, hrow2, g9⟩ := rowL_some g8
    obtain ⟨g10, g11⟩ := bif_some g9
    have g10 := Nat.eq_of_beq_eq_true g10
    subst g10
    rw [putH_eq] at g11
    obtain ⟨e', fr3, h4, g12, g13⟩ := hrn.run _ _ _ _ _ g11 _ _ cr2
    obtain ⟨st4, fr4, ps4, id4, pe4, hrow4, g14⟩ := rowL_some g12
    -- the way in which the round ends
    have fin : ∃ (t : Bool) (e4 : E) (s4 : Nat), K (.a (.b t)) ⟨h4.nx, T.set .d (.l s4 fr4 ps4 id4 e4) r h4.rows⟩ = some out ∧ e4 = e' ∧ t = e'.code.isNone ∧ stOk s4 (if e'.code.isNone then .ready else .done) ∧ ∀ p, e' ≠ .pn p := by
      rcases isO_some g14 with ⟨rfl, g15⟩ | ⟨hne, hnp, g15⟩
      · rw [putH_eq] at g15; exact ⟨true, .nrm, 0, g15, rfl, rfl, rfl, fun p e => by cases e⟩
      · rw [putH_eq] at g15
        cases e' with
        | nrm => exact absurd rfl hne
        | ex i => exact ⟨false, _, 2, g15, rfl, rfl, rfl, hnp⟩
        | rt => exact ⟨false, _, 2, g15, rfl, rfl, rfl, hnp⟩
        | pn p => exact absurd rfl (hnp p)
    obtain ⟨t, e4, s4, k1, rfl, k2, k3, k4⟩ := fin
    refine ⟨_, _, k1, fun η args w b c hb hd hh => ?_⟩
    have hR := hh.rows r b c hb
    rw [hrow] at hR
    obtain ⟨L, s', r0, r1, r2, r3, r4, r5, r6, r7, r8, r9⟩ := hR
    rw [hs] at r0
    cases r0
    have hpar : L.params = (ps.map Pp.toNat).toArray := by rw [← r5]
    have hsz : args.toArray.size = L.params.size := by rw [hpar]; simp [hd.len, l1]
    refine ⟨L.fn, _, L.assign, L.body, run_yield r1 hsz, roundIn_of_wpIn (F := Fence.wide) trivial ?_⟩
    rw [r8, r9]
    have hzip : (L.params.zip args.toArray).foldl (fun tmps (t, a) => tmps.setIfInBounds t a) L.tmps = ((ps.map Pp.toNat).zip args).foldl (fun tmps (t, a) => tmps.setIfInBounds t a) L.tmps := by
      rw [hpar]; simp
    have hF : Fok (Fence.wide.inRound b) w := .inr ⟨b, L, rfl, r1⟩
    have hfr1 : FrR σ η fr1 ((L.params.zip args.toArray).foldl (fun tmps (t, a) => tmps.setIfInBounds t a) L.tmps) := by rw [hzip]; exact g5 η L.tmps args r4 hd r6
    have hsz1 : ((L.params.zip args.toArray).foldl (fun tmps (t, a) => tmps.setIfInBounds t a) L.tmps).size = L.tmps.size := by rw [hzip]; exact zip_size
    have hassign := g7 η { tmps := (L.params.zip args.toArray).foldl (fun tmps (t, a) => tmps.setIfInBounds t a) L.tmps, defers := [] } w (Fence.wide.inRound b) ⟨w.heap.size, [], false⟩ hF hh hfr1 (hsz1.trans r7) ⟨[], rfl, List.nodup_nil, fun r hr => (by cases hr), fun _ => rfl⟩ (Nat.le_refl _) (fun e => by cases e)
    refine wpIn_mono hassign fun x a1 w1 hq => ?_
    obtain ⟨η1, q0, q1, q2, q3, q4, q5⟩ := hq
    have q0 : x = .normal := q0
    subst q0
    have hb1 : η1 r = some (b, c) := q5.le r _ hb
    have hR1 := q1.rows r b c hb1
    rw [hrow2] at hR1
    obtain ⟨L1, sv, s0, s1, s2, s3, s4', s5, s6, s7, s8⟩ := hR1
    have s2 : L1.state = .ready := s2
    refine ⟨_, run_beginRound s1 s2, ?_⟩
    have hb1lt : b < w1.heap.size := (Array.getElem?_eq_some_iff.1 s1).1
    have hup := q1.upd (r := r) (row := .l 1 fr2' ps2 id2 pe2) hb1 (by rw [hrow2]; exact fun e => Row.noConfusion e) (putObj_chg w1 b (.loop { L1 with state := .busy }))
      ⟨{ L1 with state := .busy }, sv, s0, World.putObj_heap_same hb1lt, rfl, s3, s4', s5, s6, s7, s8⟩ (fun L hL => ⟨_, World.putObj_heap_same hb1lt⟩)
    have hF2 : Fok (Fence.wide.inRound b) (w1.putObj b (.loop { L1 with state := .busy })) := .inr ⟨b, _, rfl, World.putObj_heap_same hb1lt⟩
    have st1 : Stp η h w η1 _ _ := Stp.trans hh.dom q5 hup.2
    have hbody := g13 η1 a1 _ (Fence.wide.inRound b) ⟨w.heap.size, [], false⟩ hF2 hup.1 q2 q3 (q4.step q1 hup.2) st1.size (fun e => by cases e)
    refine wpIn_mono hbody fun y a4' w4 hq4 => ?_
    obtain ⟨η4, u0, u1, u2, u3, u4, u5⟩ := hq4
    have hb4 : η4 r = some (b, c) := u5.le r _ hb1
    have hR4 := u1.rows r b c hb4
    rw [hrow4] at hR4
    obtain ⟨L4, s5', v0, v1, v2, v3, v4, v5, v6, v7, v8⟩ := hR4
    have hb4lt : b < w4.heap.size := (Array.getElem?_eq_some_iff.1 v1).1
    have hup4 := u1.upd (r := r) (row := .l s4 fr4 ps4 id4 e4) hb4 (by rw [hrow4]; exact fun e => Row.noConfusion e) (putObj_chg w4 b (.loop { L4 with state := if e4.code.isNone then .ready else .done, pending := e4.code }))
      ⟨{ L4 with state := if e4.code.isNone then .ready else .done, pending := e4.code }, s5', v0, World.putObj_heap_same hb4lt, k3, rfl, v4, v5, v6, v7, v8⟩ (fun L hL => ⟨_, World.putObj_heap_same hb4lt⟩)
    have hend := run_endRound (P := P) e4.code v1
    have hfin : Ret (fun v' w' => ∃ η', Dv σ η' (.a (.b t)) v' ∧ HRel P CV σ η' ⟨h4.nx, T.set .d (.l s4 fr4 ps4 id4 e4) r h4.rows⟩ w' ∧ Stp η h w η' ⟨h4.nx, T.set .d (.l s4 fr4 ps4 id4 e4) r h4.rows⟩ w') (.returned (.bool e4.code.isNone)) _ :=
      ⟨_, rfl, η4, by rw [k2]; rfl, hup4.1, Stp.trans hh.dom st1 (Stp.trans hup.1.dom u5 hup4.2)⟩
    cases e4 with
    | nrm => have u0 : y = .normal := u0; subst u0; exact ⟨_, _, hend, hfin⟩
    | ex i => have u0 : y = .exit i := u0; subst u0; exact ⟨_, _, hend, hfin⟩
    | rt => have u0 : y = .ret := u0; subst u0; exact ⟨_, _, hend, hfin⟩
    | pn p => exact absurd rfl (k4 p)
  · cases g8
end
end
end Go.Ev
