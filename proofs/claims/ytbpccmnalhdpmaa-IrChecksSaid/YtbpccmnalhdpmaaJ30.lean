/- IrChecks: E16. -/
import Derived.Test.YtbpccmnalhdpmaaJ29
import Derived.RangeFuncRecord
set_option linter.unusedVariables false
namespace Go.Ev
open Go.RowKit Go.Fw
noncomputable section
/-- a function of the table -/
def FnQ (P : Program) (Θ : T (Option TyI)) (CR : Nat → Code → RC → Prop) (k : Nat) (o : Option RF) : Prop :=
  match o with
  | none => True
  | some rf => ∃ fn c, P.funcs[k]? = some fn ∧ Callable P k ∧ fn.body = some c ∧ (∀ (i : Nat) (p : Pp), rf.ps[i]? = some p → p.toNat = i) ∧ rf.ps.length ≤ fn.ntmps ∧ CR fn.ntmps c rf.body ∧ cvRs Θ fn.results.toList = some rf.res
section
variable {P : Program} {Θ : T (Option TyI)} {CV : T (Option Site)} {σ : Nat → Int} {Γ : Env} (hΘ : Θ.All (TyQ P)) {CR : Nat → Code → RC → Prop} (hfn : Γ.fns.All (FnQ P Θ CR)) {rn : Rn} (hrn : RnOk P CV CR σ Γ rn)
theorem DVL.len {η : Eta} : ∀ {l : List V} {vs : List Value}, DVL σ η l vs → vs.length = l.length
  | [], _, hd => by rw [show _ = _ from hd]; rfl
  | _ :: _, _, ⟨v, vs', h1, h2, h3⟩ => by rw [h1]; simp [DVL.len h3]
theorem DVL.get {η : Eta} : ∀ {l : List V} {vs : List Value}, DVL σ η l vs → ∀ {i : Nat} {a : V}, l[i]? = some a → ∃ v, vs[i]? = some v ∧ Dv σ η a v
  | [], _, _, _, _, h => by simp at h
  | _ :: l, _, ⟨v, vs', h1, h2, h3⟩, i, a, h => by
    subst h1
    cases i with
    | zero => simp at h; subst h; exact ⟨v, rfl, h2⟩
    | succ i => simp at h; obtain ⟨u, hu, hd⟩ := DVL.get h3 h; exact ⟨u, by simpa using hu, hd⟩
theorem argsB_some : ∀ {ps : List Pp} {vs : List V} {fr : T V} {K : T V → R} {out : Out} {k : Nat}, argsB ps vs fr K = some out → (∀ (i : Nat) (p : Pp), ps[i]? = some p → p.toNat = k + i) →
    vs.length = ps.length ∧ ∃ fr', K fr' = some out ∧ ∀ p : Pp, fr'.get .x p = if k ≤ p.toNat ∧ p.toNat < k + vs.length then vs.getD (p.toNat - k) .x else fr.get .x p
  | [], [], fr, K, out, k, h, _ => ⟨rfl, fr, h, fun p => by rw [if_neg (by simp)]⟩
  | [], _ :: _, _, _, _, _, h, _ => by cases h
  | _ :: _, [], _, _, _, _, h, _ => by cases h
  | p :: ps, v :: vs, fr, K, out, k, h, hp => by
    have h0 : fr.setK .x v p (fun fr' => argsB ps vs fr' K) = some out := h
    rw [T.setK_eq] at h0
    obtain ⟨h1, fr', h2, h3⟩ := argsB_some (ps := ps) (vs := vs) (k := k + 1) h0 (fun i q hq => by have := hp (i + 1) q (by simpa using hq); omega)
    have hpk := hp 0 p rfl
    refine ⟨by simp [h1], fr', h2, fun q => ?_⟩
    rw [h3 q, T.get_set]
    simp only [List.length_cons]
    by_cases hq : q = p
    · subst hq
      rw [if_pos rfl, if_neg (by omega), if_pos (by omega), show q.toNat - k = 0 by omega]; rfl
    · rw [if_neg hq]
      have hne : q.toNat ≠ k := fun e => hq (ppInj (by omega))
      by_cases h4 : k + 1 ≤ q.toNat ∧ q.toNat < k + 1 + vs.length
      · rw [if_pos h4, if_pos (by omega), show q.toNat - k = (q.toNat - (k + 1)) + 1 by omega]; simp
      · rw [if_neg h4, if_neg (by omega)]
/-- the marks are taken, and the function is left -/
theorem leaves {fn : Func} {tmps : Array Value} {R : Ending → World → Prop} {η η' : Eta} {h h' : AH} {w : World} (hR : ∀ w1, HRel P CV σ η' h' w1 → Stp η h w η' h' w1 → ∃ v, (results fn tmps).run P w1 = .ok v w1 ∧ R (.returned v) w1) :
    ∀ (rs : List Nat) (w1 : World), rs.Nodup → (∀ r ∈ rs, w.heap.size ≤ r ∧ w1.heap[r]? = some (.deferred (some []))) → HRel P CV σ η' h' w1 → Stp η h w η' h' w1 →
      LeavesInM Fence.wide 0 P fn tmps R (rs.map fun r => { target := .collected r, args := #[] }) .returning w1
  | [], w1, _, _, hh, hs => by
    obtain ⟨v, h1, h2⟩ := hR w1 hh hs
    exact ⟨v, h1, h2⟩
  | r :: rs, w1, hn, hd, hh, hs => by
    obtain ⟨hr1, hr2⟩ := hd r (by simp)
    have hlt : r < w1.heap.size := (Array.getElem?_eq_some_iff.1 hr2).1
    have other : ∀ k, k ≠ r → (w1.putObj r (.deferred none)).heap[k]? = w1.heap[k]? := fun k hk => World.putObj_heap_other hk
    have hh' : HRel P CV σ η' h' (w1.putObj r (.deferred none)) := hh.same (by simp) (fun q b c hl he => other b (fun e => by subst e; exact hh.unowned hr2 q c hl he))
    have hs' : Stp η h w η' h' (w1.putObj r (.deferred none)) := by
      refine ⟨hs.le, hs.nx, hs.dead, by simpa using hs.size, fun b hb hno => ?_, hs.new, hs.os, hs.tape, hs.output, fun b L hL => ?_⟩
      · rw [other b (by omega)]; exact hs.keep b hb hno
      · have hb : b < w.heap.size := (Array.getElem?_eq_some_iff.1 hL).1
        rw [other b (by omega)]; exact hs.loops b L hL
    refine ⟨by simp, .inl ⟨r, _, rfl, run_takeDeferred hr2, ?_⟩⟩
    refine leaves hR rs _ (List.nodup_cons.1 hn).2 (fun q hq => ⟨(hd q (by simp [hq])).1, ?_⟩) hh' hs'
    rw [other q (fun e => by subst e; exact (List.nodup_cons.1 hn).1 hq)]
    exact (hd q (by simp [hq])).2
include hΘ hfn hrn in
theorem callK_some {fp : Pp} {vs : List V} {h : AH} {K : V → AH → R} {out : Out} (hk : callK Γ rn fp vs h K = some out) : ∃ v h', K v h' = some out ∧ CallDoes P CV σ fp.toNat vs h v h' ∧ Callable P fp.toNat := by
  have hk0 : Option.rec (motive := fun _ => R) none (fun f => argsB f.ps vs .e (fun fr => rn f.body fr h (fun e fr' h' => E.rec (motive := fun _ => R) (resK fr' h' f.res (fun v => K v h')) (fun _ => none) (resK fr' h' f.res (fun v => K v h')) e))) (Γ.fns.get none fp) = some out := hk
  cases hf : Γ.fns.get none fp with
  | none => rw [hf] at hk0; cases hk0
  | some rf =>
    rw [hf] at hk0
    rcases hfn.get none fp with h0 | h0
    · rw [h0] at hf; cases hf
    · rw [hf] at h0
      obtain ⟨fn, c, f1, f2, f3, f4, f5, f6, f7⟩ := h0
      obtain ⟨l1, fr, g1, g2⟩ := argsB_some (k := 0) hk0 (fun i p hp => by rw [Nat.zero_add]; exact f4 i p hp)
      obtain ⟨e, fr', h', g3, g4⟩ := hrn.run _ _ _ _ _ g1 fn.ntmps c f6
      have g3' : resK fr' h' rf.res (fun v => K v h') = some out ∧ (e = .nrm ∨ e = .rt) := by
        cases e with
        | nrm => exact ⟨g3, .inl rfl⟩
        | ex i => cases g3
        | rt => exact ⟨g3, .inr rfl⟩
      obtain ⟨v, g5, g6⟩ := resK_some (P := P) (CV := CV) (σ := σ) hΘ g3'.1
      refine ⟨v, h', g5, fun η args w hd hh => ?_, f2⟩
      have hl := hd.len
      refine callsIn_of_wp_marks (F := Fence.wide) f1 f3 trivial ?_
      have hsz : (args.toArray ++ Array.replicate (fn.ntmps - args.toArray.size) undef).size = fn.ntmps := by simp; omega
      have hfr : FrR σ η fr (args.toArray ++ Array.replicate (fn.ntmps - args.toArray.size) undef) := by
        intro p
        rw [g2 p]
        simp only [Array.getD_eq_getD_getElem?]
        rw [Array.getElem?_append]
        by_cases hp : 0 ≤ p.toNat ∧ p.toNat < 0 + vs.length
        · rw [if_pos hp, if_pos (by simp; omega)]
          have h3 : vs[p.toNat - 0]? = some (vs.getD (p.toNat - 0) .x) := by simp [List.getElem?_eq_getElem (show p.toNat < vs.length by omega)]
          obtain ⟨u, h4, h5⟩ := hd.get h3
          rw [show args.toArray[p.toNat]? = some u by simpa using h4]
          exact h5
        · rw [if_neg hp, if_neg (by simp; omega), T.get_e, Array.getElem?_replicate]
          split <;> rfl
      have hcode := g4 η { tmps := args.toArray ++ Array.replicate (fn.ntmps - args.toArray.size) undef, defers := [] } w Fence.wide w.heap.size (.inl rfl) hh hfr hsz ⟨[], rfl, List.nodup_nil, fun r hr => by cases hr⟩ (Nat.le_refl _)
      refine wpIn_mono hcode fun x a' w' hq => ?_
      obtain ⟨rfl, η', q1, q2, q3, ⟨rs, d1, d2, d3⟩, q5⟩ := hq
      have hleave := leaves (P := P) (CV := CV) (σ := σ) (fn := fn) (tmps := a'.tmps) (R := Ret fun v' w' => ∃ η', Dv σ η' v v' ∧ HRel P CV σ η' h' w' ∧ Stp η h w η' h' w') (η := η) (η' := η') (h := h) (h' := h') (w := w)
        (fun w1 hh1 hs1 => by
          obtain ⟨v', e1, e2⟩ := g6 η' a'.tmps w1 fn f7 q2 hh1
          exact ⟨v', e1, v', rfl, η', e2, hh1, hs1⟩) rs w' d2 d3 q1 q5
      rw [← d1] at hleave
      rcases g3'.2 with rfl | rfl
      · exact hleave
      · exact hleave

/-! rounds -/
theorem rowL_some {r : Row} {K : Nat → T V → List Pp → Pp → E → R} {out : Out} (h : r.lK K = some out) : ∃ st fr ps id pe, r = .l st fr ps id pe ∧ K st fr ps id pe = some out := by
  cases r with
  | l st fr ps id pe => exact ⟨st, fr, ps, id, pe, rfl, h⟩
  | _ => cases h
theorem isN_some {e : E} {a b : R} {out : Out} (h : isN e a b = some out) : (e = .nrm ∧ a = some out) ∨ (e ≠ .nrm ∧ b = some out) := by
  cases e with
  | nrm => exact .inl ⟨rfl, h⟩
  | ex i => exact .inr ⟨fun e => (by cases e), h⟩
  | rt => exact .inr ⟨fun e => (by cases e), h⟩
theorem bindK_some : ∀ {ps : List Pp} {vs : List V} {fr : T V} {K : T V → R} {out : Out}, bindK ps vs fr K = some out →
    vs.length = ps.length ∧ ∃ fr', K fr' = some out ∧ ∀ η (tmps : Array Value) (args : List Value), FrR σ η fr tmps → DVL σ η vs args → (∀ p ∈ ps, p.toNat < tmps.size) → FrR σ η fr' (((ps.map Pp.toNat).zip args).foldl (fun tmps (t, a) => tmps.setIfInBounds t a) tmps)
  | [], [], fr, K, out, h => ⟨rfl, fr, h, fun η tmps args hf hd _ => by cases hd; exact hf⟩
  | [], _ :: _, _, _, _, h => by cases h
  | _ :: _, [], _, _, _, h => by cases h
  | p :: ps, v :: vs, fr, K, out, h => by
    have h0 : fr.setK .x v p (fun fr' => bindK ps vs fr' K) = some out := h
    rw [T.setK_eq] at h0
    obtain ⟨h1, fr', h2, h3⟩ := bindK_some (ps := ps) (vs := vs) h0
    refine ⟨by simp [h1], fr', h2, fun η tmps args hf hd hp => ?_⟩
    obtain ⟨x, args', rfl, d1, d2⟩ := hd
    simp only [List.map_cons, List.zip_cons_cons, List.foldl_cons]
    refine h3 η _ args' ?_ d2 (fun q hq => by simpa using hp q (by simp [hq]))
    exact FrR.put (a := { tmps := tmps, defers := [] }) hf rfl (hp p (by simp)) d1
theorem zip_size {ps : List Nat} {args : List Value} : ∀ {tmps : Array Value}, ((ps.zip args).foldl (fun (tmps : Array Value) (t, a) => tmps.setIfInBounds t a) tmps).size = tmps.size := by
  induction ps generalizing args with
  | nil => intro tmps; rfl
  | cons p ps ih =>
    intro tmps
    cases args with
    | nil => rfl
    | cons a args => simp only [List.zip_cons_cons, List.foldl_cons]; rw [ih]; simp
theorem putObj_chg (w : World) (b : Nat) (o : Obj) : Chg b w (w.putObj b o) :=
  ⟨rfl, rfl, rfl, by simp, fun i hi hne => World.putObj_heap_other (by simpa using hne)⟩
def RoundDoes (P : Program) (CV : T (Option Site)) (σ : Nat → Int) (r : Pp) (vs : List V) (h : AH) (v : V) (h' : AH) : Prop :=
  ∀ (η : Eta) (args : List Value) (w : World) (b c : Nat), η r = some (b, c) → DVL σ η vs args → HRel P CV σ η h w →
    ∃ fn tmps assign body, (Instr.yield b args.toArray).run P w = .ok (.round b fn tmps assign body) w ∧ RoundIn Fence.wide 0 P b fn tmps assign body w (Ret fun v' w' => ∃ η', Dv σ η' v v' ∧ HRel P CV σ η' h' w' ∧ Stp η h w η' h' w')
include hrn in
theorem roundK_some {r : Pp} {vs : List V} {h : AH} {K : V → AH → R} {out : Out} (hk : roundK Γ rn r vs h K = some out) : ∃ v h', K v h' = some out ∧ RoundDoes P CV σ r vs h v h' := by
  obtain ⟨st, fr, ps, id, pe, hrow, g1⟩ := rowL_some hk
  obtain ⟨g2, g3⟩ := bif_some g1
  have g2 := Nat.eq_of_beq_eq_true g2
  subst g2
  have hsite : ∃ s : Site, Γ.sites.get none id = some s ∧ bindK ps vs fr (fun fr1 => rn s.a fr1 h (fun e fr2 h2 => isN e
      ((h2.row r).lK (fun st2 fr2' ps2 id2 pe2 => Bool.rec (motive := fun _ => R) none (h2.putK r (.l 1 fr2' ps2 id2 pe2) (fun h3 => rn s.b fr2 h3 (fun e' _ h4 =>
        (h4.row r).lK (fun _ fr4 ps4 id4 _ => isN e' (h4.putK r (.l 0 fr4 ps4 id4 .nrm) (K (.a (.b true)))) (h4.putK r (.l 2 fr4 ps4 id4 e') (K (.a (.b false)))))))) (Nat.beq st2 0))) none)) = some out := by
    cases hs : Γ.sites.get none id with
    | none => rw [hs] at g3; cases g3
    | some s => rw [hs] at g3; exact ⟨s, rfl, g3⟩
  obtain ⟨s, hs, g3⟩ := hsite
  rw [hrn.cv] at hs
  obtain ⟨cr1, cr2⟩ : CR s.N s.ca s.a ∧ CR s.N s.cb s.b := by
    rcases hrn.site.get none id with h0 | h0
    · rw [h0] at hs; cases hs
    · rw [hs] at h0; exact h0
  obtain ⟨l1, fr1, g4, g5⟩ := bindK_some (σ := σ) g3
  obtain ⟨e, fr2, h2, g6, g7⟩ := hrn.run _ _ _ _ _ g4 _ _ cr1
  rcases isN_some g6 with ⟨rfl, g8⟩ | ⟨_, g8⟩
  · obtain ⟨st2, fr2', ps2, id2, pe2, hrow2, g9⟩ := rowL_some g8
    obtain ⟨g10, g11⟩ := bif_some g9
    have g10 := Nat.eq_of_beq_eq_true g10
    subst g10
    rw [putH_eq] at g11
    obtain ⟨e', fr3, h4, g12, g13⟩ := hrn.run _ _ _ _ _ g11 _ _ cr2
    obtain ⟨st4, fr4, ps4, id4, pe4, hrow4, g14⟩ := rowL_some g12
    -- the way in which the round ends
    have fin : ∃ (t : Bool) (e4 : E) (s4 : Nat), K (.a (.b t)) ⟨h4.nx, T.set .d (.l s4 fr4 ps4 id4 e4) r h4.rows⟩ = some out ∧ e4 = e' ∧ t = e'.code.isNone ∧ stOk s4 (if e'.code.isNone then .ready else .done) := by
      rcases isN_some g14 with ⟨rfl, g15⟩ | ⟨hne, g15⟩
      · rw [putH_eq] at g15; exact ⟨true, .nrm, 0, g15, rfl, rfl, rfl⟩
      · rw [putH_eq] at g15
        cases e' with
        | nrm => exact absurd rfl hne
        | ex i => exact ⟨false, _, 2, g15, rfl, rfl, rfl⟩
        | rt => exact ⟨false, _, 2, g15, rfl, rfl, rfl⟩
    obtain ⟨t, e4, s4, k1, rfl, k2, k3⟩ := fin
    refine ⟨_, _, k1, fun η args w b c hb hd hh => ?_⟩
    have hR := hh.rows r b c hb
    rw [hrow] at hR
    obtain ⟨L, s', r0, r1, r2, r3, r4, r5, r6, r7, r8, r9⟩ := hR
    rw [hs] at r0
    cases r0
    have hpar : L.params = (ps.map Pp.toNat).toArray := by rw [← r5]
    have hsz : args.toArray.size = L.params.size := by rw [hpar]; simp [hd.len, l1]
    refine ⟨L.fn, _, L.assign, L.body, run_yield r1 hsz, roundIn_of_wpIn (F := Fence.wide) trivial ?_⟩
    rw [r8, r9]
    have hzip : (L.params.zip args.toArray).foldl (fun tmps (t, a) => tmps.setIfInBounds t a) L.tmps = ((ps.map Pp.toNat).zip args).foldl (fun tmps (t, a) => tmps.setIfInBounds t a) L.tmps := by
      rw [hpar]; simp
    have hF : Fok (Fence.wide.inRound b) w := .inr ⟨b, L, rfl, r1⟩
    have hfr1 : FrR σ η fr1 ((L.params.zip args.toArray).foldl (fun tmps (t, a) => tmps.setIfInBounds t a) L.tmps) := by rw [hzip]; exact g5 η L.tmps args r4 hd r6
    have hsz1 : ((L.params.zip args.toArray).foldl (fun tmps (t, a) => tmps.setIfInBounds t a) L.tmps).size = L.tmps.size := by rw [hzip]; exact zip_size
    have hassign := g7 η { tmps := (L.params.zip args.toArray).foldl (fun tmps (t, a) => tmps.setIfInBounds t a) L.tmps, defers := [] } w (Fence.wide.inRound b) w.heap.size hF hh hfr1 (hsz1.trans r7) ⟨[], rfl, List.nodup_nil, fun r hr => by cases hr⟩ (Nat.le_refl _)
    refine wpIn_mono hassign fun x a1 w1 hq => ?_
    obtain ⟨rfl, η1, q1, q2, q3, q4, q5⟩ := hq
    have hb1 : η1 r = some (b, c) := q5.le r _ hb
    have hR1 := q1.rows r b c hb1
    rw [hrow2] at hR1
    obtain ⟨L1, sv, s0, s1, s2, s3, s4', s5, s6, s7, s8⟩ := hR1
    have s2 : L1.state = .ready := s2
    refine ⟨_, run_beginRound s1 s2, ?_⟩
    have hb1lt : b < w1.heap.size := (Array.getElem?_eq_some_iff.1 s1).1
    have hup := q1.upd (r := r) (row := .l 1 fr2' ps2 id2 pe2) hb1 (by rw [hrow2]; exact fun e => Row.noConfusion e) (putObj_chg w1 b (.loop { L1 with state := .busy }))
      ⟨{ L1 with state := .busy }, sv, s0, World.putObj_heap_same hb1lt, rfl, s3, s4', s5, s6, s7, s8⟩ (fun L hL => ⟨_, World.putObj_heap_same hb1lt⟩)
    have hF2 : Fok (Fence.wide.inRound b) (w1.putObj b (.loop { L1 with state := .busy })) := .inr ⟨b, _, rfl, World.putObj_heap_same hb1lt⟩
    have st1 : Stp η h w η1 _ _ := Stp.trans hh.dom q5 hup.2
    have hbody := g13 η1 a1 _ (Fence.wide.inRound b) w.heap.size hF2 hup.1 q2 q3 (q4.step q1 hup.2) st1.size
    refine wpIn_mono hbody fun y a4' w4 hq4 => ?_
    obtain ⟨rfl, η4, u1, u2, u3, u4, u5⟩ := hq4
    have hb4 : η4 r = some (b, c) := u5.le r _ hb1
    have hR4 := u1.rows r b c hb4
    rw [hrow4] at hR4
    obtain ⟨L4, s5', v0, v1, v2, v3, v4, v5, v6, v7, v8⟩ := hR4
    have hb4lt : b < w4.heap.size := (Array.getElem?_eq_some_iff.1 v1).1
    have hup4 := u1.upd (r := r) (row := .l s4 fr4 ps4 id4 e4) hb4 (by rw [hrow4]; exact fun e => Row.noConfusion e) (putObj_chg w4 b (.loop { L4 with state := if e4.code.isNone then .ready else .done, pending := e4.code }))
      ⟨{ L4 with state := if e4.code.isNone then .ready else .done, pending := e4.code }, s5', v0, World.putObj_heap_same hb4lt, k3, rfl, v4, v5, v6, v7, v8⟩ (fun L hL => ⟨_, World.putObj_heap_same hb4lt⟩)
    have hend := run_endRound (P := P) e4.code v1
    have hfin : Ret (fun v' w' => ∃ η', Dv σ η' (.a (.b t)) v' ∧ HRel P CV σ η' ⟨h4.nx, T.set .d (.l s4 fr4 ps4 id4 e4) r h4.rows⟩ w' ∧ Stp η h w η' ⟨h4.nx, T.set .d (.l s4 fr4 ps4 id4 e4) r h4.rows⟩ w') (.returned (.bool e4.code.isNone)) _ :=
      ⟨_, rfl, η4, by rw [k2]; rfl, hup4.1, Stp.trans hh.dom st1 (Stp.trans hup.1.dom u5 hup4.2)⟩
    cases e4 with
    | nrm => exact ⟨_, _, hend, hfin⟩
    | ex i => exact ⟨_, _, hend, hfin⟩
    | rt => exact ⟨_, _, hend, hfin⟩
  · cases g8
end
end
end Go.Ev

