/- IrChecks: E15. -/
import Derived.Test.YtbpccmnalhdpmaaJ28
set_option linter.unusedVariables false
namespace Go.Ev
open Go.RowKit Go.Fw
noncomputable section
def E.exit : E → Exit
  | .nrm => .normal
  | .ex i => .exit i
  | .rt => .ret
/-- the marks among an activation's deferred calls -/
def DfR (base : Nat) (w : World) (ds : List Deferred) : Prop := ∃ rs : List Nat, ds = rs.map (fun r => { target := .collected r, args := #[] }) ∧ rs.Nodup ∧ ∀ r ∈ rs, base ≤ r ∧ w.heap[r]? = some (.deferred (some []))
section
variable {P : Program} {Θ : T (Option TyI)} {CV : T (Option Site)} {σ : Nat → Int} {Γ : Env}
theorem HRel.unowned {η : Eta} {h : AH} {w : World} (hh : HRel P CV σ η h w) {k : Nat} {x : Option (List Deferred)} (hk : w.heap[k]? = some (.deferred x)) : ∀ r c, h.row r ≠ .d → η r ≠ some (k, c) := by
  intro r c hl he
  have := hh.rows r k c he
  rw [hk] at this
  cases hr : h.row r with
  | d => exact hl hr
  | c _ _ _ => rw [hr] at this; obtain ⟨_, _, h1, _⟩ := this; cases h1
  | m _ => rw [hr] at this; obtain ⟨_, _, h1, _⟩ := this; cases h1
  | l _ _ _ _ _ => rw [hr] at this; obtain ⟨_, _, _, h1, _⟩ := this; cases h1
theorem DfR.step {base : Nat} {η η' : Eta} {h h' : AH} {w w' : World} {ds : List Deferred} (hd : DfR base w ds) (hh : HRel P CV σ η h w) (s : Stp η h w η' h' w') : DfR base w' ds := by
  obtain ⟨rs, h1, h2, h3⟩ := hd
  refine ⟨rs, h1, h2, fun r hr => ⟨(h3 r hr).1, ?_⟩⟩
  have hk := (h3 r hr).2
  rw [s.keep r (Array.getElem?_eq_some_iff.1 hk).1 (hh.unowned hk)]
  exact hk
/-- what a piece of code does -/
def CQ (P : Program) (CV : T (Option Site)) (σ : Nat → Int) (N base : Nat) (η : Eta) (h : AH) (w : World) (e : E) (fr' : T V) (h' : AH) : Exit → Act → World → Prop :=
  fun x a' w' => x = e.exit ∧ ∃ η', HRel P CV σ η' h' w' ∧ FrR σ η' fr' a'.tmps ∧ a'.tmps.size = N ∧ DfR base w' a'.defers ∧ Stp η h w η' h' w'
def CodeDoes (P : Program) (CV : T (Option Site)) (σ : Nat → Int) (N : Nat) (c : Code) (fr : T V) (h : AH) (e : E) (fr' : T V) (h' : AH) : Prop :=
  ∀ (η : Eta) (a : Act) (w : World) (F : Fence) (base : Nat), Fok F w → HRel P CV σ η h w → FrR σ η fr a.tmps → a.tmps.size = N → DfR base w a.defers → base ≤ w.heap.size →
    c.wpIn F 0 P (CQ P CV σ N base η h w e fr' h') a w
def SiteQ (CR : Nat → Code → RC → Prop) (_ : Nat) (o : Option Site) : Prop :=
  match o with
  | none => True
  | some s => CR s.N s.ca s.a ∧ CR s.N s.cb s.b
structure RnOk (P : Program) (CV : T (Option Site)) (CR : Nat → Code → RC → Prop) (σ : Nat → Int) (Γ : Env) (rn : Rn) : Prop where
  cv : Γ.sites = CV
  site : CV.All (SiteQ CR)
  run : ∀ c fr h k out, rn c fr h k = some out → ∀ N c', CR N c' c → ∃ e fr' h', k e fr' h' = some out ∧ CodeDoes P CV σ N c' fr h e fr' h'
def CallDoes (P : Program) (CV : T (Option Site)) (σ : Nat → Int) (k : FuncId) (vs : List V) (h : AH) (v : V) (h' : AH) : Prop :=
  ∀ (η : Eta) (args : List Value) (w : World), DVL σ η vs args → HRel P CV σ η h w → CallsIn Fence.wide 0 P k args.toArray w (Ret fun v' w' => ∃ η', Dv σ η' v v' ∧ HRel P CV σ η' h' w' ∧ Stp η h w η' h' w')

/-! results -/
def cvRes (Θ : T (Option TyI)) : ResultVar → Option RR
  | .tmp t => (toPo 20 t).map .s
  | .cell t ty => (toPo 20 t).bind fun p => (tyOf Θ ty).map fun i => bif aggD i.D then .g p i.z.length else .c p
def cvRs (Θ : T (Option TyI)) : List ResultVar → Option (List RR)
  | [] => some []
  | r :: l => (cvRes Θ r).bind fun x => (cvRs Θ l).map (x :: ·)
def rv (tmps : Array Value) : ResultVar → Sem Value
  | .tmp t => pure (tmps.getD t undef)
  | .cell a t => do loadVar t (← asAddr (tmps.getD a undef))
variable (hΘ : Θ.All (TyQ P))
include hΘ in
theorem resU_some {fr : T V} {h : AH} {r : RR} {K : U → R} {out : Out} (hk : resU fr h r K = some out) : ∃ u, K u = some out ∧ ∀ η tmps w rw, cvRes Θ rw = some r → FrR σ η fr tmps → HRel P CV σ η h w → ∃ v, (rv tmps rw).run P w = .ok v w ∧ Du σ η u v := by
  cases r with
  | s p =>
    obtain ⟨u, h1, h2⟩ := uK_some (show (fr.get .x p).uK K = some out from hk)
    refine ⟨u, h2, fun η tmps w rw hc hf hh => ?_⟩
    cases rw with
    | tmp t =>
      obtain ⟨p', h3, h4⟩ := Option.map_eq_some_iff.1 hc
      cases h4
      have := hf p
      rw [h1, toPo_some h3] at this
      exact ⟨_, rfl, Du.v.1 this⟩
    | cell t ty =>
      obtain ⟨p', h3, h4⟩ := Option.bind_eq_some_iff.1 hc
      obtain ⟨i, _, h5⟩ := Option.map_eq_some_iff.1 h4
      cases hb : aggD i.D <;> (rw [hb] at h5; cases h5)
  | c p =>
    obtain ⟨a, ha, g1⟩ := aK_some (show (fr.get .x p).aK _ = some out from hk)
    obtain ⟨r, o, rfl, g2⟩ := pK_some g1
    obtain ⟨tt, n, tr, hrow, g3⟩ := rowC_some g2
    obtain ⟨q, hq, g4⟩ := cellK_some g3
    obtain ⟨hne, g5⟩ := knK_some g4
    refine ⟨_, g5, fun η tmps w rw hc hf hh => ?_⟩
    cases rw with
    | tmp t => obtain ⟨_, _, h4⟩ := Option.map_eq_some_iff.1 hc; cases h4
    | cell t ty =>
      obtain ⟨p', h3, h4⟩ := Option.bind_eq_some_iff.1 hc
      obtain ⟨i, hi, h5⟩ := Option.map_eq_some_iff.1 h4
      cases hb : aggD i.D with
      | true => rw [hb] at h5; cases h5
      | false =>
        rw [hb] at h5
        cases h5
        have hp := hf p
        rw [ha, toPo_some h3] at hp
        obtain ⟨b, c, e1, e2⟩ := hp
        have hR := hh.rows r b c e1
        rw [hrow] at hR
        obtain ⟨cs, j, r1, r2, r3, r4, r5⟩ := hR
        obtain ⟨_, v, e3, e4⟩ := r5.2 q hne
        rw [hq] at e3
        refine ⟨v, ?_, e4⟩
        have hag := isAgg_run (tyOf_ok hΘ hi).1 w
        rw [hb] at hag
        have hcell := Blk.cell (show Blk w b tt cs from r1) e3
        simp only [rv, e2]
        simp [asAddr, loadVar, Sem.run_bind, hag, hcell]
  | g p m =>
    obtain ⟨a, ha, g1⟩ := aK_some (show (fr.get .x p).aK _ = some out from hk)
    obtain ⟨r, o, rfl, g2⟩ := pK_some g1
    obtain ⟨tt, n, tr, hrow, g3⟩ := rowC_some g2
    obtain ⟨l, hl, hcl, g4⟩ := kcellsK_some g3
    refine ⟨_, g4, fun η tmps w rw hc hf hh => ?_⟩
    cases rw with
    | tmp t => obtain ⟨_, _, h4⟩ := Option.map_eq_some_iff.1 hc; cases h4
    | cell t ty =>
      obtain ⟨p', h3, h4⟩ := Option.bind_eq_some_iff.1 hc
      obtain ⟨i, hi, h5⟩ := Option.map_eq_some_iff.1 h4
      cases hb : aggD i.D with
      | false => rw [hb] at h5; cases h5
      | true =>
        rw [hb] at h5
        cases h5
        have hp := hf p
        rw [ha, toPo_some h3] at hp
        obtain ⟨b, c, e1, e2⟩ := hp
        have hR := hh.rows r b c e1
        rw [hrow] at hR
        obtain ⟨cs, j, r1, r2, r3, r4, r5⟩ := hR
        obtain ⟨vs, e3, e4⟩ := r5.at hcl
        refine ⟨.agg vs.toArray, ?_, vs, e3, rfl⟩
        have hag := isAgg_run (tyOf_ok hΘ hi).1 w
        rw [hb] at hag
        obtain ⟨_, zv, ⟨ti, ti1, ti2, ti3, ti4⟩, _⟩ := tyOf_ok hΘ hi
        have hll : (loadCells ⟨b, o, none⟩ vs.length).run P w = .ok vs.toArray w :=
          run_loadCells_list (P := P) w ⟨b, o, none⟩ vs (fun j v hv => by rw [Addr.add_lit]; exact Blk.cell (show Blk w b tt cs from r1) (e4 j v hv))
        have hlen : ti.size = vs.length := by rw [ti3, e3.len, hl]
        simp only [rv, e2]
        simp [asAddr, loadVar, Sem.run_bind, hag, sizeOf, typeInfo, ti1, hlen, hll]
include hΘ in
theorem resL_some {fr : T V} {h : AH} : ∀ {rs : List RR} {K : List U → R} {out : Out}, resL fr h rs K = some out → ∃ l, K l = some out ∧ ∀ η tmps w rws, cvRs Θ rws = some rs → FrR σ η fr tmps → HRel P CV σ η h w → ∃ vs, (rws.mapM (rv tmps)).run P w = .ok vs w ∧ DUL σ η l vs
  | [], K, out, hk => ⟨[], hk, fun η tmps w rws hc _ _ => by
      cases rws with
      | nil => exact ⟨[], by simp, rfl⟩
      | cons r l =>
        obtain ⟨x, _, h2⟩ := Option.bind_eq_some_iff.1 hc
        obtain ⟨_, _, h4⟩ := Option.map_eq_some_iff.1 h2
        cases h4⟩
  | r :: rs, K, out, hk => by
    obtain ⟨u, h1, h2⟩ := resU_some (P := P) (CV := CV) (σ := σ) hΘ (show resU fr h r (fun u => resL fr h rs (fun l => K (u :: l))) = some out from hk)
    obtain ⟨l, h3, h4⟩ := resL_some (rs := rs) h1
    refine ⟨_, h3, fun η tmps w rws hc hf hh => ?_⟩
    cases rws with
    | nil => cases hc
    | cons rw rws =>
      obtain ⟨x, e1, e2⟩ := Option.bind_eq_some_iff.1 hc
      obtain ⟨rs', e3, e4⟩ := Option.map_eq_some_iff.1 e2
      cases e4
      obtain ⟨v, f1, f2⟩ := h2 η tmps w rw e1 hf hh
      obtain ⟨vs, f3, f4⟩ := h4 η tmps w rws e3 hf hh
      exact ⟨v :: vs, by rw [List.mapM_cons]; simp [f1, f3], v, vs, rfl, f2, f4⟩
include hΘ in
theorem resK_some {fr : T V} {h : AH} {rs : List RR} {K : V → R} {out : Out} (hk : resK fr h rs K = some out) : ∃ v, K v = some out ∧ ∀ η tmps w fn, cvRs Θ fn.results.toList = some rs → FrR σ η fr tmps → HRel P CV σ η h w → ∃ v', (results fn tmps).run P w = .ok v' w ∧ Dv σ η v v' := by
  obtain ⟨l, h1, h2⟩ := resL_some (P := P) (CV := CV) (σ := σ) hΘ hk
  have run : ∀ η tmps w fn, cvRs Θ fn.results.toList = some rs → FrR σ η fr tmps → HRel P CV σ η h w → ∃ vs, DUL σ η l vs ∧ (results fn tmps).run P w = .ok (if h : vs.toArray.size = 1 then vs.toArray[0] else .tuple vs.toArray) w := by
    intro η tmps w fn hc hf hh
    obtain ⟨vs, e1, e2⟩ := h2 η tmps w _ hc hf hh
    refine ⟨vs, e2, ?_⟩
    have hm : (fn.results.mapM (rv tmps)).run P w = .ok vs.toArray w := by
      obtain ⟨fl⟩ : ∃ fl : List ResultVar, fn.results = fl.toArray := ⟨fn.results.toList, by simp⟩
      rename_i hfl
      rw [hfl] at e1 ⊢
      rw [List.mapM_toArray, Sem.run_map, show (fl.mapM (rv tmps)).run P w = .ok vs w from e1]
      rfl
    have : results fn tmps = (do let vs ← fn.results.mapM (rv tmps); pure (if h : vs.size = 1 then vs[0] else .tuple vs)) := rfl
    rw [this, Sem.run_bind, hm]
    rfl
  cases l with
  | nil => exact ⟨_, h1, fun η tmps w fn hc hf hh => by
      obtain ⟨vs, e1, e2⟩ := run η tmps w fn hc hf hh
      have e1' : vs = [] := e1
      subst e1'
      exact ⟨_, e2, [], rfl, rfl⟩⟩
  | cons u r =>
    cases r with
    | nil => exact ⟨_, h1, fun η tmps w fn hc hf hh => by
        obtain ⟨vs, e1, e2⟩ := run η tmps w fn hc hf hh
        obtain ⟨v, vs', rfl, d1, d2⟩ := e1
        have d2 : vs' = [] := d2
        subst d2
        exact ⟨_, e2, Du.v.2 d1⟩⟩
    | cons u2 r => exact ⟨_, h1, fun η tmps w fn hc hf hh => by
        obtain ⟨vs, e1, e2⟩ := run η tmps w fn hc hf hh
        have e1' := e1
        obtain ⟨v, vs', rfl, d1, v2, vs'', rfl, d2, d3⟩ := e1
        refine ⟨_, e2, ?_⟩
        rw [dif_neg (by simp)]
        exact ⟨_, e1', rfl⟩⟩
end
end
end Go.Ev

